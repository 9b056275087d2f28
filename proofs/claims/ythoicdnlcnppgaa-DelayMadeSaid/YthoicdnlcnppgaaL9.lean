/- Contract: the law DelayMade. Conditions: none. -/
import Derived.Test.YthoicdnlcnppgaaD18
import Derived.Test.YthoicdnlcnppgaaFl9
set_option linter.unusedVariables false
set_option linter.unusedSimpArgs false
namespace Go.Proofs.Ythoicdnlcnppgaa.Fn
open Go Go.Am
set_option maxRecDepth 100000
set_option maxHeartbeats 1000000
theorem k9r (s : St) (xm xw xp : Cell) (m : List Mom) (w : List Wt) (p : List Pr) (Q : AExit → St → Prop) (tA : (s.t 9 = .v (.one (xm)) ∧ s.t 10 = .v (.one (xw)) ∧ s.t 11 = .v (.one (xp)))) (vm : View s.h.o s.h.nx xm enM m) (vw : View s.h.o s.h.nx xw enW w) (vp : View s.h.o s.h.nx xp enPr p)
    (hm : m.length < 100) (hw : w.length < 100) (hp : p.length < 100) (hQ : ∀ s1 : St, s1.t 8 = .v (.one (.bool true)) → Q .ret s1) : wC fl9 out c9_35 s Q := by
  refine s9_35 ?_
  simp -implicitDefEqProofs (disch := constructor; omega) [↓h9_36, ↓h9_36_1, tA]
  refine wF_mono (lift9 (k13 xm xw xp m w p _ (vm.keep (by (try dsimp only [keepOnly_eq]); omega) fun _ _ => rfl) (vw.keep (by (try dsimp only [keepOnly_eq]); omega) fun _ _ => rfl) (vp.keep (by (try dsimp only [keepOnly_eq]); omega) fun _ _ => rfl) (by omega) (by omega) (by omega))) ?_
  rintro r1 h1 ⟨R1, hn1, ho1⟩
  (try dsimp only at hn1 ho1)
  have g1 : ∀ i, i < s.h.nx → h1.o i = s.h.o i := fun i hi => ho1 i (by omega)
  obtain ⟨y1, z1, e1, rfl⟩ := R1.shape
  (try simp -implicitDefEqProofs (disch := constructor; omega) [↓h9_36, ↓h9_36_1, tA])
  refine s9_37 ?_
  simp -implicitDefEqProofs (disch := constructor; omega) [↓h9_38, ↓h9_38_1, tA]
  refine wF_mono (lift9 (k16 xm xw xp m w p _ (vm.keep (by (try dsimp only [keepOnly_eq]); omega) g1) (vw.keep (by (try dsimp only [keepOnly_eq]); omega) g1) (vp.keep (by (try dsimp only [keepOnly_eq]); omega) g1) (by omega) (by omega) (by omega))) ?_
  rintro r2 h2 ⟨R2, hn2, ho2⟩
  (try dsimp only at hn2 ho2)
  have g2 : ∀ i, i < s.h.nx → h2.o i = s.h.o i := fun i hi => (ho2 i (by omega)).trans (g1 i hi)
  obtain ⟨y2, z2, e2, rfl⟩ := R2.shape
  obtain ⟨_, _, _, _, e, ls, ks, q1, q2, vy1, vz1, vy2, vz2, hls, hks⟩ := R1.pair R2
  cases q1
  cases q2
  have vm2 := vm.keep (n' := h2.nx) (by omega) g2
  have vw2 := vw.keep (n' := h2.nx) (by omega) g2
  have vp2 := vp.keep (n' := h2.nx) (by omega) g2
  have wy1 := vy1.keep (n' := h2.nx) (o' := h2.o) (by omega) fun i hi => ho2 i (by omega)
  have wz1 := vz1.keep (n' := h2.nx) (o' := h2.o) (by omega) fun i hi => ho2 i (by omega)
  clear R1 R2 vm vw vp vy1 vz1 g1 g2 ho1 ho2
  have lenm := vm2.lenV (fs := fl9) (out := out)
  (try simp -implicitDefEqProofs (disch := constructor; omega) [↓h9_38, ↓h9_38_1, tA, lenm])
  refine s9_39 ?_
  refine s9_40 ?_
  simp -implicitDefEqProofs (disch := constructor; omega) [↓h9_41, tA, lenm]
  refine s9_42 ?_
  refine s9_43 (fun k s => ∃ i : Nat, i + k = m.length ∧ (s.t 9 = .v (.one (xm)) ∧ s.t 10 = .v (.one (xw)) ∧ s.t 11 = .v (.one (xp)) ∧ s.t 13 = .v (.one (y1)) ∧ s.t 14 = .v (.one (z1)) ∧ s.t 15 = .v (.one (.int .i64 (e1))) ∧ s.t 16 = .v (.one (y2)) ∧ s.t 17 = .v (.one (z2)) ∧ s.t 18 = .v (.one (.int .i64 (e1))) ∧ s.t 121 = .v (.one (.int .i64 (m.length))) ∧ s.t 122 = .v (.one (.int .i64 (i)))) ∧ h2.le s.h) m.length ?_ ?_
  · exact ⟨0, by omega, (by simp -implicitDefEqProofs (disch := constructor; omega) [tA, lenm]), (by (try dsimp only [keepOnly_eq]); omega), fun _ _ => rfl⟩
  · clear tA hn1 hn2
    rintro k s Q2 ⟨i, hk, tB, hn, ho⟩ hN hE hR
    refine s9_44 ?_
    simp -implicitDefEqProofs (disch := constructor; omega) [↓h9_45, tB]
    refine s9_46 ?_
    simp -implicitDefEqProofs (disch := constructor; omega) [tB]
    split
    · rename_i hi
      refine s9_48 ?_
      refine s9_49 ?_
      refine s9_50 ?_
      simp -implicitDefEqProofs (disch := constructor; omega) [↓h9_51, tB]
      refine s9_52 ?_
      simp -implicitDefEqProofs (disch := constructor; omega) [↓h9_53, ↓h9_53_1, tB]
      have g2 : ∀ i, i < h2.nx → s.h.o i = h2.o i := ho
      refine wF_mono (lift9 (k20 xm xw xp m w p i _ (vm2.keep (by (try dsimp only [keepOnly_eq]); omega) g2) (vw2.keep (by (try dsimp only [keepOnly_eq]); omega) g2) (vp2.keep (by (try dsimp only [keepOnly_eq]); omega) g2) (by omega) (by omega) (by omega))) ?_
      rintro r3 h3 ⟨R3, hn3, ho3⟩
      (try dsimp only at hn3 ho3)
      have g3 : ∀ i, i < h2.nx → h3.o i = h2.o i := fun i hi => (ho3 i (by omega)).trans (g2 i hi)
      obtain ⟨y3, e3, rfl⟩ := R3.shape
      (try simp -implicitDefEqProofs (disch := constructor; omega) [↓h9_53, ↓h9_53_1, tB])
      refine s9_54 ?_
      simp -implicitDefEqProofs (disch := constructor; omega) [↓h9_55, ↓h9_55_1, tB]
      refine wF_mono (lift9 (k21 xm xw xp m w p i _ (vm2.keep (by (try dsimp only [keepOnly_eq]); omega) g3) (vw2.keep (by (try dsimp only [keepOnly_eq]); omega) g3) (vp2.keep (by (try dsimp only [keepOnly_eq]); omega) g3) (by omega) (by omega) (by omega))) ?_
      rintro r4 h4 ⟨R4, hn4, ho4⟩
      (try dsimp only at hn4 ho4)
      have g4 : ∀ i, i < h2.nx → h4.o i = h2.o i := fun i hi => (ho4 i (by omega)).trans (g3 i hi)
      obtain ⟨y4, e4, rfl⟩ := R4.shape
      obtain ⟨_, _, f, cs, q1, q2, vy3, vy4, hcs⟩ := R3.pair R4
      cases q1
      cases q2
      clear R3 R4
      (try simp -implicitDefEqProofs (disch := constructor; omega) [↓h9_55, ↓h9_55_1, tB])
      refine s9_56 ?_
      simp -implicitDefEqProofs (disch := constructor; omega) [↓h9_57, ↓h9_57_1, ↓w9_57_2, ↓h9_57_2g, ↓h9_57_3, tB]
      refine wF_mono (lift9 (k19 y3 y4 cs cs _ (vy3.keep (by (try dsimp only [keepOnly_eq]); omega) fun i hi => ho4 i (by omega)) (vy4.keep (by (try dsimp only [keepOnly_eq]); omega) fun i hi => rfl) (by omega))) ?_
      rintro _ h5 ⟨rfl, hn5, ho5⟩
      rw [decide_eq_true rfl]
      (try dsimp only at hn5 ho5)
      have w1 := wrap64 (show -9223372036854775808 ≤ (i : Int) + 1 by omega) (by omega)
      (try simp -implicitDefEqProofs (disch := constructor; omega) [↓h9_57, ↓h9_57_1, ↓w9_57_2, ↓h9_57_2g, ↓h9_57_3, tB, w1])
      refine s9_58 ?_
      simp -implicitDefEqProofs (disch := constructor; omega) [tB, w1]
      refine s9_61 ?_
      simp -implicitDefEqProofs (disch := constructor; omega) [↓h9_61, tB, w1]
      refine hN (k - 1) _ (by omega) ?_
      dsimp only [keepOnly_eq]
      exact ⟨i + 1, by omega, (by simp -implicitDefEqProofs (disch := constructor; omega) [tB, w1]), (by (try dsimp only [keepOnly_eq]); omega), fun i hi => (ho5 i (by omega)).trans (g4 i hi)⟩
    · rename_i hi
      refine hE 1 _ ?_
      (try simp -implicitDefEqProofs (disch := constructor; omega) [tB])
      refine s9_62 ?_
      simp -implicitDefEqProofs (disch := constructor; omega) [↓h9_63, ↓h9_63_1, ↓w9_63_2, ↓h9_63_2g, ↓h9_63_2g_1, ↓h9_63_2g_2, ↓h9_63_3, ↓w9_63_4, ↓h9_63_4g, ↓h9_63_5, ↓w9_63_6, ↓h9_63_6g, ↓h9_63_7, ↓w9_63_8, ↓h9_63_8g, ↓h9_63_9, tB]
      have g4 : ∀ i, i < h2.nx → s.h.o i = h2.o i := ho
      refine wF_mono (wF_out rfl (out14 _)) ?_
      rintro _ _ ⟨rfl, rfl⟩
      (try simp -implicitDefEqProofs (disch := constructor; omega) [↓h9_63, ↓h9_63_1, ↓w9_63_2, ↓h9_63_2g, ↓h9_63_2g_1, ↓h9_63_2g_2, ↓h9_63_3, ↓w9_63_4, ↓h9_63_4g, ↓h9_63_5, ↓w9_63_6, ↓h9_63_6g, ↓h9_63_7, ↓w9_63_8, ↓h9_63_8g, ↓h9_63_9, tB])
      refine wF_mono (lift9 (k22 xm xw xp m w p _ (vm2.keep (by (try dsimp only [keepOnly_eq]); omega) g4) (vw2.keep (by (try dsimp only [keepOnly_eq]); omega) g4) (vp2.keep (by (try dsimp only [keepOnly_eq]); omega) g4) (by omega) (by omega) (by omega))) ?_
      rintro _ h5 ⟨b5, rfl, hb5, hn5, ho5⟩
      (try dsimp only at hn5 ho5)
      have g5 : ∀ i, i < h2.nx → h5.o i = h2.o i := fun i hi => (ho5 i (by omega)).trans (g4 i hi)
      (try simp -implicitDefEqProofs (disch := constructor; omega) [↓h9_63, ↓h9_63_1, ↓w9_63_2, ↓h9_63_2g, ↓h9_63_2g_1, ↓h9_63_2g_2, ↓h9_63_3, ↓w9_63_4, ↓h9_63_4g, ↓h9_63_5, ↓w9_63_6, ↓h9_63_6g, ↓h9_63_7, ↓w9_63_8, ↓h9_63_8g, ↓h9_63_9, tB])
      refine wF_mono (lift9 (k23 xm xw xp m w p _ (vm2.keep (by (try dsimp only [keepOnly_eq]); omega) g5) (vw2.keep (by (try dsimp only [keepOnly_eq]); omega) g5) (vp2.keep (by (try dsimp only [keepOnly_eq]); omega) g5) (by omega) (by omega) (by omega))) ?_
      rintro _ h6 ⟨b6, rfl, hb6, hn6, ho6⟩
      (try dsimp only at hn6 ho6)
      have g6 : ∀ i, i < h2.nx → h6.o i = h2.o i := fun i hi => (ho6 i (by omega)).trans (g5 i hi)
      have hbb : b5 = b6 := by
        have := hb5.trans hb6.symm
        cases b5 <;> cases b6 <;> simp_all
      subst hbb
      (try simp -implicitDefEqProofs (disch := constructor; omega) [↓h9_63, ↓h9_63_1, ↓w9_63_2, ↓h9_63_2g, ↓h9_63_2g_1, ↓h9_63_2g_2, ↓h9_63_3, ↓w9_63_4, ↓h9_63_4g, ↓h9_63_5, ↓w9_63_6, ↓h9_63_6g, ↓h9_63_7, ↓w9_63_8, ↓h9_63_8g, ↓h9_63_9, tB])
      refine wF_mono (lift9 (k19 y1 y2 ls ls _ (wy1.keep (by (try dsimp only [keepOnly_eq]); omega) g6) (vy2.keep (by (try dsimp only [keepOnly_eq]); omega) g6) (by omega))) ?_
      rintro _ h7 ⟨rfl, hn7, ho7⟩
      rw [decide_eq_true rfl]
      (try dsimp only at hn7 ho7)
      have g7 : ∀ i, i < h2.nx → h7.o i = h2.o i := fun i hi => (ho7 i (by omega)).trans (g6 i hi)
      (try simp -implicitDefEqProofs (disch := constructor; omega) [↓h9_63, ↓h9_63_1, ↓w9_63_2, ↓h9_63_2g, ↓h9_63_2g_1, ↓h9_63_2g_2, ↓h9_63_3, ↓w9_63_4, ↓h9_63_4g, ↓h9_63_5, ↓w9_63_6, ↓h9_63_6g, ↓h9_63_7, ↓w9_63_8, ↓h9_63_8g, ↓h9_63_9, tB])
      refine wF_mono (lift9 (k24 z1 z2 ks ks _ (wz1.keep (by (try dsimp only [keepOnly_eq]); omega) g7) (vz2.keep (by (try dsimp only [keepOnly_eq]); omega) g7) (by omega))) ?_
      rintro _ h8 ⟨rfl, hn8, ho8⟩
      rw [decide_eq_true rfl]
      (try simp -implicitDefEqProofs (disch := constructor; omega) [↓h9_63, ↓h9_63_1, ↓w9_63_2, ↓h9_63_2g, ↓h9_63_2g_1, ↓h9_63_2g_2, ↓h9_63_3, ↓w9_63_4, ↓h9_63_4g, ↓h9_63_5, ↓w9_63_6, ↓h9_63_6g, ↓h9_63_7, ↓w9_63_8, ↓h9_63_8g, ↓h9_63_9, tB])
      exact hQ _ (by simp -implicitDefEqProofs (disch := constructor; omega) [tB])
theorem k9 (x : Cell) (l : List Int) (how at' v' : Int) (h : AH) (v : View h.o h.nx x enI l) (hlen : l.length < 9223372036854775807) :
    wF fl9 out 9 [.v (.one x), .v (.one (.int .i64 how)), .v (.one (.int .i64 at')), .v (.one (.int .i64 v'))] h fun r h' => r = .v (.one (.bool true)) := by
  refine wF_fn fs9 rfl fun Q hQ => ?_
  refine s9_0 ?_
  simp -implicitDefEqProofs (disch := constructor; omega) [↓h9_1]
  refine s9_2 ?_
  simp -implicitDefEqProofs (disch := constructor; omega) [↓h9_3, ↓h9_3_1]
  refine wF_mono (lift9 (k12 x l _ (v.keep (by (try dsimp only [keepOnly_eq]); omega) fun i hi => rfl) hlen)) ?_
  rintro _ h1 ⟨xm, m, fm, xw, w, fw, xp, p, fp, j, rfl, D, M, hmpos, hn1, ho1⟩
  obtain ⟨lo, D0⟩ : ∃ lo, Del h1 lo j xm m fm xw w fw xp p fp := ⟨_, D⟩
  clear D hn1 ho1
  have V := M.valid
  have hn6 := M.n6
  have hwl := M.wl
  have hpl := M.pl
  (try simp -implicitDefEqProofs (disch := constructor; omega) [↓h9_3, ↓h9_3_1])
  refine s9_4 ?_
  refine s9_5 ?_
  simp -implicitDefEqProofs (disch := constructor; omega) [↓h9_6, ↓h9_6_1]
  refine wF_mono (lift9 (k22 xm xw xp m w p _ (D0.m.view.keep (by (try dsimp only [keepOnly_eq]); omega) fun _ _ => rfl) (D0.w.view.keep (by (try dsimp only [keepOnly_eq]); omega) fun _ _ => rfl) (D0.p.view.keep (by (try dsimp only [keepOnly_eq]); omega) fun _ _ => rfl) (by omega) (by omega) (by omega))) ?_
  rintro _ h2 ⟨b, rfl, hb, hn2, ho2⟩
  obtain rfl := hb.2 V
  (try dsimp only at hn2 ho2)
  have D2 : Del h2 lo j xm m fm xw w fw xp p fp := D0.keep (by omega) fun i hi => ho2 i (by omega)
  (try simp -implicitDefEqProofs (disch := constructor; omega) [↓h9_6, ↓h9_6_1])
  refine s9_7 ?_
  simp -implicitDefEqProofs (disch := constructor; omega)
  refine s9_10 ?_
  refine s9_11 ?_
  simp -implicitDefEqProofs (disch := constructor; omega) [↓h9_12]
  refine wF_mono (lift9 (k15 how 7 (by omega) (by omega) _)) ?_
  rintro _ h3 ⟨rfl, hn3, ho3⟩
  (try dsimp only at hn3 ho3)
  have D3 : Del h3 lo j xm m fm xw w fw xp p fp := D2.keep (by omega) fun i hi => ho3 i (by omega)
  have hc := pickN_range how (show (1 : Int) ≤ 7 by omega)
  obtain ⟨c, hce⟩ : ∃ c, c = pickN how 7 := ⟨_, rfl⟩
  rw [← hce] at hc ⊢
  clear D0 D2 hn2 ho2 hn3 ho3 V hb
  have fin : ∀ s1 : St, s1.t 8 = .v (.one (.bool true)) → Q .ret s1 := fun s1 h8 => hQ _ _ _ (.inr rfl) (by simp only [resc, resv, a9, h8]) rfl
  have lenm := D3.m.view.lenV (fs := fl9) (out := out)
  have lenw := D3.w.view.lenV (fs := fl9) (out := out)
  by_cases c0 : c = 0
  · skip
    (try simp -implicitDefEqProofs (disch := constructor; omega) [c0, lenw])
    refine s9_13 ?_
    refine s9_14 ?_
    simp -implicitDefEqProofs (disch := constructor; omega) [↓h9_15, c0, lenw]
    refine s9_16 ?_
    simp -implicitDefEqProofs (disch := constructor; omega) [c0, lenw]
    refine s9_17 ?_
    simp -implicitDefEqProofs (disch := constructor; omega) [↓h9_18, c0, lenw]
    refine s9_19 ?_
    simp -implicitDefEqProofs (disch := constructor; omega) [c0, lenw]
    by_cases hw0 : 0 < w.length
    · skip
      (try simp -implicitDefEqProofs (disch := constructor; omega) [hw0, lenw])
      refine s9_20 ?_
      simp -implicitDefEqProofs (disch := constructor; omega) [↓h9_21, ↓h9_21_1, hw0, lenw]
      have hk0 := pickN_range at' (show (1 : Int) ≤ w.length by omega)
      refine wF_mono (lift9 (k15 at' w.length (by omega) (by omega) _)) ?_
      rintro _ h4 ⟨rfl, hn4, ho4⟩
      (try dsimp only at hn4 ho4)
      have D4 : Del h4 lo j xm m fm xw w fw xp p fp := D3.keep (by omega) fun i hi => ho4 i (by omega)
      obtain ⟨u, hu⟩ : ∃ u : Nat, pickN at' w.length = u := ⟨(pickN at' w.length).toNat, by omega⟩
      rw [hu] at hk0 ⊢
      have hun : u < w.length := by omega
      obtain ⟨q, rfl, hq, _⟩ : ∃ q, xw = .slice q 0 w.length ∧ h4.o q = some (.cells fw false 35 4 (w.flatMap enW)) ∧ True := by
        rcases D4.w with ⟨_, h0⟩ | ⟨q, hx, hq, _⟩
        · rw [h0] at hun; simp at hun
        · exact ⟨q, hx, hq, trivial⟩
      obtain ⟨A, hA⟩ : ∃ A : Wt, A = ⟨w[u].t, w[u].t, w[u].mn, w[u].ms⟩ := ⟨_, rfl⟩
      obtain ⟨B, hB⟩ : ∃ B : Wt, B = ⟨w[u].t, w[u].f, w[u].mn, w[u].ms⟩ := ⟨_, rfl⟩
      have hl2 := rows_len enW_len w
      have l1 : u * 4 < (w.flatMap enW).length := by omega
      have l2 : u * 4 + 1 < (w.flatMap enW).length := by omega
      have l3 : u * 4 + 1 < ((w.set u A).flatMap enW).length := by rw [rows_len enW_len]; simp; omega
      have g1 : (w.flatMap enW)[u * 4]? = some (.int .i64 w[u].f) := rows_get1 enW_len w hun (by omega : 0 < 4)
      have g2 : (w.flatMap enW)[u * 4 + 1]? = some (.int .i64 w[u].t) := rows_get1 enW_len w hun (by omega : 1 < 4)
      have s1 : (w.flatMap enW).set (u * 4) (.int .i64 w[u].t) = (w.set u A).flatMap enW := rows_set1 enW_len w hun (by omega : 0 < 4) (by rw [hA]; rfl)
      have s2 : ((w.set u A).flatMap enW).set (u * 4 + 1) (.int .i64 w[u].f) = (w.set u B).flatMap enW := by
        rw [← List.set_set (l := w) (i := u) (a := A) (b := B)]
        exact rows_set1 enW_len (w.set u A) (by simpa using hun) (by omega : 1 < 4) (by simp only [List.getElem_set_self]; rw [hA, hB]; rfl)
      (try simp -implicitDefEqProofs (disch := constructor; omega) [↓h9_21, ↓h9_21_1, hun, hq, l1, l2, l3, g1, g2, s1, s2, -List.length_flatMap])
      refine s9_22 ?_
      simp -implicitDefEqProofs (disch := constructor; omega) [↓h9_22, ↓h9_22_1, hun, hq, l1, l2, l3, g1, g2, s1, s2, -List.length_flatMap]
      have D5 := D4.storeW (n := h4.nx) (L := w.set u A) rfl hq (by simp) (Nat.le_refl _)
      have D6 := D5.storeW (n := h4.nx) (L := w.set u B) (by simp) (updO_same _ _ _) (by simp) (Nat.le_refl _)
      exact k9r _ xm _ xp m (w.set u B) p Q (by simp -implicitDefEqProofs (disch := constructor; omega) [hun, hq, l1, l2, l3, g1, g2, s1, s2]) (D6.m.view.keep (by (try dsimp only [keepOnly_eq]); omega) fun _ _ => rfl) (D6.w.view.keep (by (try dsimp only [keepOnly_eq]); omega) fun _ _ => rfl) (D6.p.view.keep (by (try dsimp only [keepOnly_eq]); omega) fun _ _ => rfl) (by omega) (by simp; omega) (by omega) fin
    · have hw0' := eq_false hw0
      (try simp -implicitDefEqProofs (disch := constructor; omega) [hw0'])
      exact k9r _ xm xw xp m w p Q (by simp -implicitDefEqProofs (disch := constructor; omega) [hw0']) (D3.m.view.keep (by (try dsimp only [keepOnly_eq]); omega) fun _ _ => rfl) (D3.w.view.keep (by (try dsimp only [keepOnly_eq]); omega) fun _ _ => rfl) (D3.p.view.keep (by (try dsimp only [keepOnly_eq]); omega) fun _ _ => rfl) (by omega) (by omega) (by omega) fin
  · have c0' := eq_false c0
    by_cases c1 : c = 1
    · have w1 := wrap64 (show -9223372036854775808 ≤ (m.length : Int) + 1 by omega) (by omega)
      (try simp -implicitDefEqProofs (disch := constructor; omega) [c0', c1, lenm, w1])
      refine s9_13 ?_
      refine s9_14 ?_
      simp -implicitDefEqProofs (disch := constructor; omega) [↓h9_15, c0', c1, lenm, w1]
      refine s9_16 ?_
      simp -implicitDefEqProofs (disch := constructor; omega) [c0', c1, lenm, w1]
      refine s9_23 ?_
      simp -implicitDefEqProofs (disch := constructor; omega) [↓h9_24, c0', c1, lenm, w1]
      refine s9_25 ?_
      simp -implicitDefEqProofs (disch := constructor; omega) [c0', c1, lenm, w1]
      refine s9_26 ?_
      simp -implicitDefEqProofs (disch := constructor; omega) [↓h9_26, ↓h9_26_1, ↓h9_26_2, ↓h9_26_3, c0', c1, lenm, w1]
      refine wF_mono (lift9 (k15 at' (m.length + 1) (by omega) (by omega) _)) ?_
      rintro _ h4 ⟨rfl, hn4, ho4⟩
      (try dsimp only at hn4 ho4)
      obtain ⟨a1, ha1⟩ : ∃ u, u = pickN at' (m.length + 1) := ⟨_, rfl⟩
      rw [← ha1]
      (try simp -implicitDefEqProofs (disch := constructor; omega) [↓h9_26, ↓h9_26_1, ↓h9_26_2, ↓h9_26_3, c0', c1, lenm, w1])
      refine wF_mono (lift9 (k15 v' (m.length + 1) (by omega) (by omega) _)) ?_
      rintro _ h5 ⟨rfl, hn5, ho5⟩
      (try dsimp only at hn5 ho5)
      obtain ⟨a2, ha2⟩ : ∃ u, u = pickN v' (m.length + 1) := ⟨_, rfl⟩
      rw [← ha2]
      have D5 : Del h5 lo j xm m fm xw w fw xp p fp := D3.keep (by omega) fun i hi => (ho5 i (by omega)).trans (ho4 i (by omega))
      (try simp -implicitDefEqProofs (disch := constructor; omega) [↓h9_26, ↓h9_26_1, ↓h9_26_2, ↓h9_26_3, c0', c1, lenm, w1])
      refine app_own (f := fw) (lo := lo) (n := h3.nx) (x := xw) (l := w) (l2 := [⟨a1, a2, 0, -1⟩]) (enc := enW) ?_ ?_ ?_ (src_one (f := h3.nx + 2 + 2 + 12) (ro := false) (e := 35) (s := 4) (w := 4) ?_ rfl) enW_len enW_solid (show 0 < 4 by omega) ⟨?_, ?_⟩ ?_
      · have := D3.lj; have := D3.jn; (try dsimp only); omega
      · (try dsimp only); omega
      · exact D3.ownW fun i hi hj => by simp -implicitDefEqProofs (disch := constructor; omega) [c0', c1, lenm, w1]; rw [ho5 i (by omega), ho4 i (by omega)]
      · (try simp -implicitDefEqProofs (disch := constructor; omega) [c0', c1, lenm, w1, enW])
      · simp; omega
      · simp; omega
      rintro x' f' o' O' hf' ho'
      (try dsimp only at ho' hf' O')
      have jlt := D3.jn
      have S5 : Src ⟨o', h5.nx⟩ lo j := srcF D5.s D5.wj (Nat.le_refl _) (by omega) (by have := D3.lj; omega) (fun i hi => by have := D3.lj; exact updO_ne _ _ _ _ ⟨by omega⟩) ho'
      have d5 : Del ⟨o', h5.nx⟩ lo j xm m fm x' (w ++ [⟨a1, a2, 0, -1⟩]) f' xp p fp := by
        refine D3.setW S5 (by (try dsimp only); omega) (fun i hi hj hc => ?_) (O'.keep' (by (try dsimp only); omega) fun _ _ => rfl) (by (try dsimp only); omega)
        have e5 : h5.o i = h3.o i := (ho5 i (by omega)).trans (ho4 i (by omega))
        have g := ho' i (by omega) (by
          rcases hc with hc | hc
          · exact .inl hc
          · right; simp -implicitDefEqProofs (disch := constructor; omega) [c0', c1, lenm, w1, e5]; exact hc)
        (try dsimp only)
        rw [g]
        (try simp -implicitDefEqProofs (disch := constructor; omega) [c0', c1, lenm, w1])
        exact e5
      (try simp -implicitDefEqProofs (disch := constructor; omega) [↓h9_26, ↓h9_26_1, ↓h9_26_2, ↓h9_26_3, c0', c1, lenm, w1])
      exact k9r _ xm x' xp m _ p Q (by simp -implicitDefEqProofs (disch := constructor; omega) [c0', c1, lenm, w1]) (d5.m.view.keep (by (try dsimp only [keepOnly_eq]); omega) fun _ _ => rfl) (d5.w.view.keep (by (try dsimp only [keepOnly_eq]); omega) fun _ _ => rfl) (d5.p.view.keep (by (try dsimp only [keepOnly_eq]); omega) fun _ _ => rfl) (by omega) (by simp; omega) (by omega) fin
    · have c1' := eq_false c1
      by_cases c2 : c = 2
      · have w1 := wrap64 (show -9223372036854775808 ≤ (m.length : Int) + 2 by omega) (by omega)
        (try simp -implicitDefEqProofs (disch := constructor; omega) [c0', c1', c2, lenm, w1])
        refine s9_13 ?_
        refine s9_14 ?_
        simp -implicitDefEqProofs (disch := constructor; omega) [↓h9_15, c0', c1', c2, lenm, w1]
        refine s9_16 ?_
        simp -implicitDefEqProofs (disch := constructor; omega) [c0', c1', c2, lenm, w1]
        refine s9_23 ?_
        simp -implicitDefEqProofs (disch := constructor; omega) [↓h9_24, c0', c1', c2, lenm, w1]
        refine s9_25 ?_
        simp -implicitDefEqProofs (disch := constructor; omega) [c0', c1', c2, lenm, w1]
        refine s9_27 ?_
        simp -implicitDefEqProofs (disch := constructor; omega) [↓h9_28, c0', c1', c2, lenm, w1]
        refine s9_29 ?_
        simp -implicitDefEqProofs (disch := constructor; omega) [c0', c1', c2, lenm, w1]
        refine s9_30 ?_
        simp -implicitDefEqProofs (disch := constructor; omega) [↓h9_30, ↓h9_30_1, ↓h9_30_2, ↓h9_30_3, c0', c1', c2, lenm, w1]
        have hp1 := pickN_range at' (show (1 : Int) ≤ m.length + 2 by omega)
        refine wF_mono (lift9 (k15 at' (m.length + 2) (by omega) (by omega) _)) ?_
        rintro _ h4 ⟨rfl, hn4, ho4⟩
        (try dsimp only at hn4 ho4)
        obtain ⟨a1, ha1⟩ : ∃ u, u = pickN at' (m.length + 2) := ⟨_, rfl⟩
        rw [← ha1] at hp1 ⊢
        have w2 := wrap64 (show -9223372036854775808 ≤ a1 - 1 by omega) (by omega)
        (try simp -implicitDefEqProofs (disch := constructor; omega) [↓h9_30, ↓h9_30_1, ↓h9_30_2, ↓h9_30_3, w2])
        refine wF_mono (lift9 (k15 v' 9 (by omega) (by omega) _)) ?_
        rintro _ h5 ⟨rfl, hn5, ho5⟩
        (try dsimp only at hn5 ho5)
        obtain ⟨a2, ha2⟩ : ∃ u, u = pickN v' 9 := ⟨_, rfl⟩
        rw [← ha2]
        have D5 : Del h5 lo j xm m fm xw w fw xp p fp := D3.keep (by omega) fun i hi => (ho5 i (by omega)).trans (ho4 i (by omega))
        (try simp -implicitDefEqProofs (disch := constructor; omega) [↓h9_30, ↓h9_30_1, ↓h9_30_2, ↓h9_30_3, w2])
        refine app_own (f := fp) (lo := lo) (n := h3.nx) (x := xp) (l := p) (l2 := [⟨a1 - 1, a2⟩]) (enc := enPr) ?_ ?_ ?_ (src_one (f := h3.nx + 2 + 2 + 2 + 10) (ro := false) (e := 39) (s := 2) (w := 2) ?_ rfl) enPr_len enPr_solid (show 0 < 2 by omega) ⟨?_, ?_⟩ ?_
        · have := D3.lj; have := D3.jn; (try dsimp only); omega
        · (try dsimp only); omega
        · exact D3.ownP fun i hi hj => by simp -implicitDefEqProofs (disch := constructor; omega) [w2]; rw [ho5 i (by omega), ho4 i (by omega)]
        · (try simp -implicitDefEqProofs (disch := constructor; omega) [w2, enPr])
        · simp; omega
        · simp; omega
        rintro x' f' o' O' hf' ho'
        (try dsimp only at ho' hf' O')
        have jlt := D3.jn
        have S5 : Src ⟨o', h5.nx⟩ lo j := srcF D5.s D5.pj (Nat.le_refl _) (by omega) (by have := D3.lj; omega) (fun i hi => by have := D3.lj; exact updO_ne _ _ _ _ ⟨by omega⟩) ho'
        have d5 : Del ⟨o', h5.nx⟩ lo j xm m fm xw w fw x' (p ++ [⟨a1 - 1, a2⟩]) f' := by
          refine D3.setP S5 (by (try dsimp only); omega) (fun i hi hj hc => ?_) (O'.keep' (by (try dsimp only); omega) fun _ _ => rfl) (by (try dsimp only); omega)
          have e5 : h5.o i = h3.o i := (ho5 i (by omega)).trans (ho4 i (by omega))
          have g := ho' i (by omega) (by
            rcases hc with hc | hc
            · exact .inl hc
            · right; simp -implicitDefEqProofs (disch := constructor; omega) [w2, e5]; exact hc)
          (try dsimp only)
          rw [g]
          (try simp -implicitDefEqProofs (disch := constructor; omega) [w2])
          exact e5
        (try simp -implicitDefEqProofs (disch := constructor; omega) [↓h9_30, ↓h9_30_1, ↓h9_30_2, ↓h9_30_3, w2])
        exact k9r _ xm xw x' m w _ Q (by simp -implicitDefEqProofs (disch := constructor; omega) [w2]) (d5.m.view.keep (by (try dsimp only [keepOnly_eq]); omega) fun _ _ => rfl) (d5.w.view.keep (by (try dsimp only [keepOnly_eq]); omega) fun _ _ => rfl) (d5.p.view.keep (by (try dsimp only [keepOnly_eq]); omega) fun _ _ => rfl) (by omega) (by omega) (by simp; omega) fin
      · have c2' := eq_false c2
        by_cases c3 : c = 3
        · skip
          (try simp -implicitDefEqProofs (disch := constructor; omega) [c0', c1', c2', c3, lenm])
          refine s9_13 ?_
          refine s9_14 ?_
          simp -implicitDefEqProofs (disch := constructor; omega) [↓h9_15, c0', c1', c2', c3, lenm]
          refine s9_16 ?_
          simp -implicitDefEqProofs (disch := constructor; omega) [c0', c1', c2', c3, lenm]
          refine s9_23 ?_
          simp -implicitDefEqProofs (disch := constructor; omega) [↓h9_24, c0', c1', c2', c3, lenm]
          refine s9_25 ?_
          simp -implicitDefEqProofs (disch := constructor; omega) [c0', c1', c2', c3, lenm]
          refine s9_27 ?_
          simp -implicitDefEqProofs (disch := constructor; omega) [↓h9_28, c0', c1', c2', c3, lenm]
          refine s9_29 ?_
          simp -implicitDefEqProofs (disch := constructor; omega) [c0', c1', c2', c3, lenm]
          refine s9_31 ?_
          simp -implicitDefEqProofs (disch := constructor; omega) [↓h9_32, c0', c1', c2', c3, lenm]
          refine s9_33 ?_
          simp -implicitDefEqProofs (disch := constructor; omega) [c0', c1', c2', c3, lenm]
          refine s9_34 ?_
          simp -implicitDefEqProofs (disch := constructor; omega) [↓h9_34, ↓h9_34_1, ↓h9_34_2, c0', c1', c2', c3, lenm]
          have hk0 := pickN_range at' (show (1 : Int) ≤ m.length by omega)
          refine wF_mono (lift9 (k15 at' m.length (by omega) (by omega) _)) ?_
          rintro _ h4 ⟨rfl, hn4, ho4⟩
          (try dsimp only at hn4 ho4)
          obtain ⟨u, hu⟩ : ∃ u : Nat, pickN at' m.length = u := ⟨(pickN at' m.length).toNat, by omega⟩
          rw [hu] at hk0 ⊢
          have hun : u < m.length := by omega
          (try simp -implicitDefEqProofs (disch := constructor; omega) [↓h9_34, ↓h9_34_1, ↓h9_34_2, c0', c1', c2', c3, lenm])
          have hp2 := pickN_range v' (show (1 : Int) ≤ 300 by omega)
          refine wF_mono (lift9 (k15 v' 300 (by omega) (by omega) _)) ?_
          rintro _ h5 ⟨rfl, hn5, ho5⟩
          (try dsimp only at hn5 ho5)
          obtain ⟨a2, ha2⟩ : ∃ u, u = pickN v' 300 := ⟨_, rfl⟩
          rw [← ha2] at hp2 ⊢
          have D5 : Del h5 lo j xm m fm xw w fw xp p fp := D3.keep (by omega) fun i hi => (ho5 i (by omega)).trans (ho4 i (by omega))
          obtain ⟨q, rfl, hq, _⟩ : ∃ q, xm = .slice q 0 m.length ∧ h5.o q = some (.cells fm false 33 2 (m.flatMap enM)) ∧ True := by
            rcases D5.m with ⟨_, h0⟩ | ⟨q, hx, hq, _⟩
            · rw [h0] at hun; simp at hun
            · exact ⟨q, hx, hq, trivial⟩
          obtain ⟨A, hA⟩ : ∃ A : Mom, A = ⟨a2 - 1, m[u].hold⟩ := ⟨_, rfl⟩
          have hl2 := rows_len enM_len m
          have l1 : u * 2 < (m.flatMap enM).length := by omega
          have s1 : (m.flatMap enM).set (u * 2) (.int .i64 (a2 - 1)) = (m.set u A).flatMap enM := rows_set1 enM_len m hun (by omega : 0 < 2) (by rw [hA]; rfl)
          have w2 := wrap64 (show -9223372036854775808 ≤ a2 - 1 by omega) (by omega)
          (try simp -implicitDefEqProofs (disch := constructor; omega) [↓h9_34, ↓h9_34_1, ↓h9_34_2, hun, hq, l1, s1, w2, -List.length_flatMap])
          have D6 := D5.storeM (n := h5.nx) (L := m.set u A) rfl hq (by simp) (Nat.le_refl _)
          exact k9r _ _ xw xp (m.set u A) w p Q (by simp -implicitDefEqProofs (disch := constructor; omega) [hun, hq, l1, s1, w2]) (D6.m.view.keep (by (try dsimp only [keepOnly_eq]); omega) fun _ _ => rfl) (D6.w.view.keep (by (try dsimp only [keepOnly_eq]); omega) fun _ _ => rfl) (D6.p.view.keep (by (try dsimp only [keepOnly_eq]); omega) fun _ _ => rfl) (by simp; omega) (by omega) (by omega) fin
        · have c3' := eq_false c3
          (try simp -implicitDefEqProofs (disch := constructor; omega) [c0', c1', c2', c3'])
          refine s9_13 ?_
          refine s9_14 ?_
          simp -implicitDefEqProofs (disch := constructor; omega) [↓h9_15, c0', c1', c2', c3']
          refine s9_16 ?_
          simp -implicitDefEqProofs (disch := constructor; omega) [c0', c1', c2', c3']
          refine s9_23 ?_
          simp -implicitDefEqProofs (disch := constructor; omega) [↓h9_24, c0', c1', c2', c3']
          refine s9_25 ?_
          simp -implicitDefEqProofs (disch := constructor; omega) [c0', c1', c2', c3']
          refine s9_27 ?_
          simp -implicitDefEqProofs (disch := constructor; omega) [↓h9_28, c0', c1', c2', c3']
          refine s9_29 ?_
          simp -implicitDefEqProofs (disch := constructor; omega) [c0', c1', c2', c3']
          refine s9_31 ?_
          simp -implicitDefEqProofs (disch := constructor; omega) [↓h9_32, c0', c1', c2', c3']
          refine s9_33 ?_
          simp -implicitDefEqProofs (disch := constructor; omega) [c0', c1', c2', c3']
          exact k9r _ xm xw xp m w p Q (by simp -implicitDefEqProofs (disch := constructor; omega) [c0', c1', c2', c3']) (D3.m.view.keep (by (try dsimp only [keepOnly_eq]); omega) fun _ _ => rfl) (D3.w.view.keep (by (try dsimp only [keepOnly_eq]); omega) fun _ _ => rfl) (D3.p.view.keep (by (try dsimp only [keepOnly_eq]); omega) fun _ _ => rfl) (by omega) (by omega) (by omega) fin
end Go.Proofs.Ythoicdnlcnppgaa.Fn
