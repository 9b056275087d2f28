/- Contracts: Delay, the made problems. Conditions: none. -/
import Derived.Test.YthoicdnlcnppgaaD3
set_option linter.unusedVariables false
set_option linter.unusedSimpArgs false
namespace Go.Proofs.Ythoicdnlcnppgaa.Fn
open Go Go.Am
set_option maxRecDepth 100000
set_option maxHeartbeats 1000000
/-- The three lists of a problem that is being made, and its source. -/
structure Del (h : AH) (lo j : Nat) (ym : Cell) (lm : List Mom) (fm : Nat) (yw : Cell) (lw : List Wt) (fw : Nat) (yp : Cell) (lp : List Pr) (fp : Nat) : Prop where
  m : Own h.o lo h.nx ym 33 2 enM lm fm
  w : Own h.o lo h.nx yw 35 4 enW lw fw
  p : Own h.o lo h.nx yp 39 2 enPr lp fp
  s : Src h lo j
  mw : fm ≠ fw
  mp : fm ≠ fp
  wp : fw ≠ fp
  mj : fm ≠ j
  wj : fw ≠ j
  pj : fp ≠ j
  mn : fm < h.nx
  wn : fw < h.nx
  pn : fp < h.nx
  lj : lo ≤ j
  jn : j < h.nx
variable {h h' : AH} {lo j : Nat} {ym yw yp : Cell} {lm : List Mom} {lw : List Wt} {lp : List Pr} {fm fw fp : Nat}
/-- A call that changed the source alone. -/
theorem Del.call (d : Del h lo j ym lm fm yw lw fw yp lp fp) (S : Src h' lo j) (hn : h.nx ≤ h'.nx) (ho : ∀ i, i < h.nx → i ≠ j → h'.o i = h.o i) : Del h' lo j ym lm fm yw lw fw yp lp fp := by
  refine ⟨d.m.keep hn fun i cs h1 h2 h3 => ho i h2 fun e => ?_, d.w.keep hn fun i cs h1 h2 h3 => ho i h2 fun e => ?_, d.p.keep hn fun i cs h1 h2 h3 => ho i h2 fun e => ?_, S, d.mw, d.mp, d.wp, d.mj, d.wj, d.pj,
    Nat.lt_of_lt_of_le d.mn hn, Nat.lt_of_lt_of_le d.wn hn, Nat.lt_of_lt_of_le d.pn hn, d.lj, Nat.lt_of_lt_of_le d.jn hn⟩ <;> exact d.s.own (e ▸ h3)
theorem Del.keep (d : Del h lo j ym lm fm yw lw fw yp lp fp) (hn : h.nx ≤ h'.nx) (ho : ∀ i, i < h.nx → h'.o i = h.o i) : Del h' lo j ym lm fm yw lw fw yp lp fp :=
  d.call (d.s.keep hn fun i hi => ho i (by have := d.lj; have := d.jn; omega)) hn fun i hi _ => ho i hi
theorem Del.ownM (d : Del h lo j ym lm fm yw lw fw yp lp fp) {o' : Nat → Option AObj} (ho : ∀ i, i < h.nx → i ≠ j → o' i = h.o i) : Own o' lo h.nx ym 33 2 enM lm fm :=
  d.m.keep (Nat.le_refl _) fun i cs h1 h2 h3 => ho i h2 fun e => d.s.own (e ▸ h3)
theorem Del.ownW (d : Del h lo j ym lm fm yw lw fw yp lp fp) {o' : Nat → Option AObj} (ho : ∀ i, i < h.nx → i ≠ j → o' i = h.o i) : Own o' lo h.nx yw 35 4 enW lw fw :=
  d.w.keep (Nat.le_refl _) fun i cs h1 h2 h3 => ho i h2 fun e => d.s.own (e ▸ h3)
theorem Del.ownP (d : Del h lo j ym lm fm yw lw fw yp lp fp) {o' : Nat → Option AObj} (ho : ∀ i, i < h.nx → i ≠ j → o' i = h.o i) : Own o' lo h.nx yp 39 2 enPr lp fp :=
  d.p.keep (Nat.le_refl _) fun i cs h1 h2 h3 => ho i h2 fun e => d.s.own (e ▸ h3)
/-- The source behind a change of one family. -/
theorem srcF {g h' : AH} {G : Nat → Option AObj} {q f : Nat} (S : Src g lo j) (hf : f ≠ j) (hn : g.nx ≤ h'.nx) (hq : j ≠ q) (hl : lo ≤ q) (hG : ∀ i, i < lo ∨ i = j → G i = g.o i)
    (ho : ∀ i, i ≠ q → i < lo ∨ notFam f (G i) → h'.o i = G i) : Src h' lo j := by
  refine S.keep hn fun i hi => ?_
  rw [← hG i hi]
  refine ho i (by omega) ?_
  rcases hi with hi | rfl
  · exact .inl hi
  · obtain ⟨x, l, p, v, a, b, c, _⟩ := S
    exact .inr (by rw [hG _ (.inr rfl), c]; exact fun e => hf e.symm)
theorem ownF {α : Type} {e w f g : Nat} {enc : α → List Cell} {l : List α} {x : Cell} (O : Own h.o lo h.nx x e w enc l g) (hn : h.nx ≤ h'.nx) (hf : f ≠ g) (hs : ∀ i cs, i < h.nx → h.o i = some (.cells g false e w cs) → i ≠ j)
    (ho : ∀ i, i < h.nx → i ≠ j → i < lo ∨ notFam f (h.o i) → h'.o i = h.o i) : Own h'.o lo h'.nx x e w enc l g :=
  O.keep hn fun i cs h1 h2 h3 => ho i h2 (hs i cs h2 h3) (.inr (by rw [h3]; exact fun e => hf e.symm))
/-- A list changed, with objects of its family alone, and the source. -/
theorem Del.setM (d : Del h lo j ym lm fm yw lw fw yp lp fp) (S : Src h' lo j) (hn : h.nx ≤ h'.nx) (ho : ∀ i, i < h.nx → i ≠ j → i < lo ∨ notFam fm (h.o i) → h'.o i = h.o i) {y : Cell} {l : List Mom} {f : Nat} (O : Own h'.o lo h'.nx y 33 2 enM l f)
    (hf : f = fm ∨ h.nx ≤ f ∧ f < h'.nx) : Del h' lo j y l f yw lw fw yp lp fp := by
  obtain ⟨m, w, p, s, mw, mp, wp, mj, wj, pj, mn, wn, pn, lj, jn⟩ := d
  exact ⟨O, ownF w hn mw (fun i cs _ h3 e => s.own (e ▸ h3)) ho, ownF p hn mp (fun i cs _ h3 e => s.own (e ▸ h3)) ho, S, by omega, by omega, by omega, by omega, by omega, by omega, by omega, by omega, by omega, by omega, by omega⟩
theorem Del.setW (d : Del h lo j ym lm fm yw lw fw yp lp fp) (S : Src h' lo j) (hn : h.nx ≤ h'.nx) (ho : ∀ i, i < h.nx → i ≠ j → i < lo ∨ notFam fw (h.o i) → h'.o i = h.o i) {y : Cell} {l : List Wt} {f : Nat} (O : Own h'.o lo h'.nx y 35 4 enW l f)
    (hf : f = fw ∨ h.nx ≤ f ∧ f < h'.nx) : Del h' lo j ym lm fm y l f yp lp fp := by
  obtain ⟨m, w, p, s, mw, mp, wp, mj, wj, pj, mn, wn, pn, lj, jn⟩ := d
  exact ⟨ownF m hn mw.symm (fun i cs _ h3 e => s.own (e ▸ h3)) ho, O, ownF p hn wp (fun i cs _ h3 e => s.own (e ▸ h3)) ho, S, by omega, by omega, by omega, by omega, by omega, by omega, by omega, by omega, by omega, by omega, by omega⟩
theorem Del.setP (d : Del h lo j ym lm fm yw lw fw yp lp fp) (S : Src h' lo j) (hn : h.nx ≤ h'.nx) (ho : ∀ i, i < h.nx → i ≠ j → i < lo ∨ notFam fp (h.o i) → h'.o i = h.o i) {y : Cell} {l : List Pr} {f : Nat} (O : Own h'.o lo h'.nx y 39 2 enPr l f)
    (hf : f = fp ∨ h.nx ≤ f ∧ f < h'.nx) : Del h' lo j ym lm fm yw lw fw y l f := by
  obtain ⟨m, w, p, s, mw, mp, wp, mj, wj, pj, mn, wn, pn, lj, jn⟩ := d
  exact ⟨ownF m hn mp.symm (fun i cs _ h3 e => s.own (e ▸ h3)) ho, ownF w hn wp.symm (fun i cs _ h3 e => s.own (e ▸ h3)) ho, O, S, by omega, by omega, by omega, by omega, by omega, by omega, by omega, by omega, by omega, by omega, by omega⟩
def okW (n : Int) (x : Wt) : Prop := 0 ≤ x.f ∧ x.f < x.t ∧ x.t < n ∧ 0 ≤ x.mn ∧ x.mn < 40 ∧ -1 ≤ x.ms ∧ x.ms < 25
def okR (n : Int) (x : Pr) : Prop := 0 ≤ x.m ∧ x.m < n ∧ 0 ≤ x.s ∧ x.s < 60
def okM (x : Mom) : Prop := 0 ≤ x.t ∧ x.t < 150
/-- What a made problem of n moments looks like. -/
structure Made (n : Nat) (lm : List Mom) (lw : List Wt) (lp : List Pr) : Prop where
  n6 : n ≤ 6
  ml : lm.length = n
  wl : lw.length ≤ 2 * n
  pl : lp.length ≤ n
  m : ∀ x ∈ lm, okM x
  w : ∀ x ∈ lw, okW n x
  p : ∀ x ∈ lp, okR n x
  pd : (lp.map Pr.m).Nodup
theorem k12 (x : Cell) (l : List Int) (h : AH) (v : View h.o h.nx x enI l) (hlen : l.length < 9223372036854775807) :
    wF fs out 12 [.v (.one x)] h fun r h' => ∃ ym lm fm yw lw fw yp lp fp j, r = .tup [.one ym, .one yw, .one yp] ∧ Del h' h.nx j ym lm fm yw lw fw yp lp fp ∧ Made lm.length lm lw lp ∧ 0 < lm.length ∧ h.le h' := by
  refine wF_fn fs12 rfl fun Q hQ => ?_
  refine s12_0 ?_
  simp -implicitDefEqProofs (disch := constructor; omega) [↓h12_1]
  refine s12_2 ?_
  simp -implicitDefEqProofs (disch := constructor; omega) [↓h12_3, ↓h12_3_1]
  refine wF_mono (k26s x l _ h.nx (v.keep (by simp -implicitDefEqProofs (disch := constructor; omega) <;> omega) fun i hi => by simp -implicitDefEqProofs (disch := constructor; omega)) (by simp -implicitDefEqProofs (disch := constructor; omega) <;> omega) hlen) ?_
  rintro _ h1 ⟨j, rfl, hj, S, hle1⟩
  have hn1 := hle1.1
  have ho1 := hle1.2
  (try dsimp only at hj hn1 ho1)
  (try simp -implicitDefEqProofs (disch := constructor; omega) [↓h12_3, ↓h12_3_1])
  refine s12_4 ?_
  simp -implicitDefEqProofs (disch := constructor; omega) [↓h12_5]
  refine s12_6 ?_
  simp -implicitDefEqProofs (disch := constructor; omega) [↓h12_7]
  refine s12_8 ?_
  simp -implicitDefEqProofs (disch := constructor; omega) [↓h12_9]
  refine s12_10 ?_
  simp -implicitDefEqProofs (disch := constructor; omega) [↓h12_11, ↓h12_11_1]
  refine wF_mono (k27s 6 (by omega) (by omega) h.nx j _ (S.keep (by simp -implicitDefEqProofs (disch := constructor; omega) <;> omega) fun i hi => by have := S.lt; simp -implicitDefEqProofs (disch := constructor; omega))) ?_
  rintro _ h2 ⟨⟨N, rfl, hN0, hN6⟩, S2, hn2, ho2⟩
  (try dsimp only at hn2 ho2)
  (try simp -implicitDefEqProofs (disch := constructor; omega) [↓h12_11, ↓h12_11_1, wrap64 (show -9223372036854775808 ≤ 1 + N by omega) (by omega)])
  refine s12_12 ?_
  refine s12_13 ?_
  simp -implicitDefEqProofs (disch := constructor; omega) [↓h12_14]
  refine s12_15 ?_
  have hj1 := S.lt
  have hj2 := S2.lt
  refine s12_16 (fun m s => ∃ (i : Nat) (ym : Cell) (lm : List Mom) (fm : Nat) (yw : Cell) (lw : List Wt) (fw : Nat) (yp : Cell) (lp : List Pr) (fp : Nat), i + m = N.toNat + 1 ∧ s.t 5 = .v (.one (.ptr j 0)) ∧ s.t 6 = .v (.one ym) ∧ s.t 7 = .v (.one yw) ∧ s.t 8 = .v (.one yp)
      ∧ s.t 9 = .v (.one (.int .i64 (1 + N))) ∧ s.t 10 = .v (.one (.int .i64 i)) ∧ Del s.h h.nx j ym lm fm yw lw fw yp lp fp ∧ Made i lm lw lp ∧ h.le s.h) (N.toNat + 1) ?_ ?_
  · refine ⟨0, .nils, [], h1.nx, .nils, [], h1.nx + 1, .nils, [], h1.nx + 2, by omega, by simp -implicitDefEqProofs (disch := constructor; omega), by simp -implicitDefEqProofs (disch := constructor; omega), by simp -implicitDefEqProofs (disch := constructor; omega), by simp -implicitDefEqProofs (disch := constructor; omega), by simp -implicitDefEqProofs (disch := constructor; omega), by simp -implicitDefEqProofs (disch := constructor; omega), ?_, ?_, (by (try dsimp only [keepOnly_eq]); omega), fun i hi => ?_⟩
    · exact ⟨.nil, .nil, .nil, S2.keep (by (try dsimp only [keepOnly_eq]); omega) fun i hi => by simp -implicitDefEqProofs (disch := constructor; omega), by omega, by omega, by omega, by omega, by omega, by omega, (by (try dsimp only [keepOnly_eq]); omega), (by (try dsimp only [keepOnly_eq]); omega), (by (try dsimp only [keepOnly_eq]); omega), by omega, (by (try dsimp only [keepOnly_eq]); omega)⟩
    · exact ⟨by omega, rfl, by simp, by simp, by simp, by simp, by simp, by simp⟩
    · (try simp -implicitDefEqProofs (disch := constructor; omega))
      rw [ho2 i (by omega) (by omega)]
      (try simp -implicitDefEqProofs (disch := constructor; omega))
      rw [ho1 i (by omega)]
      (try simp -implicitDefEqProofs (disch := constructor; omega))
  · rintro mo s Q2 ⟨i, ym, lm, fm, yw, lw, fw, yp, lp, fp, hm, t5, t6, t7, t8, t9, t10, d, M, hn0, ho0⟩ hN hE hR
    refine s12_17 ?_
    refine s12_18 ?_
    simp -implicitDefEqProofs (disch := constructor; omega) [↓h12_19, t5, t6, t7, t8, t9, t10]
    refine s12_20 ?_
    simp -implicitDefEqProofs (disch := constructor; omega) [t5, t6, t7, t8, t9, t10]
    split
    · rename_i hi
      have hi6 : i < 6 := by omega
      have lj := d.lj
      have jn := d.jn
      have w1 := wrap64 (show -9223372036854775808 ≤ 20 * (i : Int) by omega) (by omega)
      refine s12_21 ?_
      refine s12_22 ?_
      refine s12_23 ?_
      simp -implicitDefEqProofs (disch := constructor; omega) [↓h12_24, ↓h12_24_1, ↓h12_24_2, ↓h12_24_3, t5, t6, t7, t8, t9, t10, w1]
      refine wF_mono (k27s 30 (by omega) (by omega) h.nx j _ (d.keep (by (try dsimp only [keepOnly_eq]); omega) fun i hi => by simp -implicitDefEqProofs (disch := constructor; omega) [t5, t6, t7, t8, t9, t10, w1]).s) ?_
      rintro _ h3 ⟨⟨v1, rfl, hv1, hv1'⟩, S3, hn3, ho3⟩
      (try dsimp only at hn3 ho3)
      have w2 := wrap64 (show -9223372036854775808 ≤ 20 * (i : Int) + v1 by omega) (by omega)
      (try simp -implicitDefEqProofs (disch := constructor; omega) [↓h12_24, ↓h12_24_1, ↓h12_24_2, ↓h12_24_3, t5, t6, t7, t8, t9, t10, w1, w2])
      refine wF_mono (k27s 2 (by omega) (by omega) h.nx j _ (S3.keep (by (try dsimp only [keepOnly_eq]); omega) fun i hi => by simp -implicitDefEqProofs (disch := constructor; omega) [t5, t6, t7, t8, t9, t10, w1, w2])) ?_
      rintro _ h4 ⟨⟨v2, rfl, hv2, hv2'⟩, S4, hn4, ho4⟩
      (try dsimp only at hn4 ho4)
      (try simp -implicitDefEqProofs (disch := constructor; omega) [↓h12_24, ↓h12_24_1, ↓h12_24_2, ↓h12_24_3, t5, t6, t7, t8, t9, t10, w1, w2])
      have g4 : ∀ i, i < s.h.nx → i ≠ j → h4.o i = s.h.o i := fun i hi hj => by rw [ho4 i (by omega) hj, ho3 i (by omega) hj]
      refine app_own (f := fm) (lo := h.nx) (n := s.h.nx) (x := ym) (l := lm) (l2 := [⟨20 * i + v1, v2 == 0⟩]) (enc := enM) ?_ ?_ ?_ (src_one (f := s.h.nx + 3 + 10) (ro := false) (e := 33) (s := 2) (w := 2) ?_ rfl) enM_len enM_solid (show 0 < 2 by omega) ⟨?_, ?_⟩ ?_
      · (try dsimp only)
        omega
      · (try dsimp only)
        omega
      · exact d.ownM fun i hi hj => by simp -implicitDefEqProofs (disch := constructor; omega) [t5, t6, t7, t8, t9, t10, w1, w2]; exact g4 i hi hj
      · (try simp -implicitDefEqProofs (disch := constructor; omega) [t5, t6, t7, t8, t9, t10, w1, w2, enM])
      · simp; have := M.ml; omega
      · simp; have := M.ml; omega
      rintro x' f' o' O' hf' ho'
      (try dsimp only at ho' hf' O')
      have S5 : Src ⟨o', h4.nx⟩ h.nx j := srcF S4 d.mj (Nat.le_refl _) (by omega) (by omega) (fun i hi => by simp -implicitDefEqProofs (disch := constructor; omega) [t5, t6, t7, t8, t9, t10, w1, w2]) ho'
      have d5 : Del ⟨o', h4.nx⟩ h.nx j x' (lm ++ [⟨20 * i + v1, v2 == 0⟩]) f' yw lw fw yp lp fp := by
        refine d.setM S5 (by (try dsimp only); omega) (fun i hi hj hc => ?_) (O'.keep' (by (try dsimp only); omega) fun _ _ => rfl) (by (try dsimp only); omega)
        have g := ho' i (by omega) (by
          rcases hc with hc | hc
          · exact .inl hc
          · right; simp -implicitDefEqProofs (disch := constructor; omega) [t5, t6, t7, t8, t9, t10, w1, w2, g4 i hi hj]; exact hc)
        (try dsimp only)
        rw [g]
        (try simp -implicitDefEqProofs (disch := constructor; omega) [t5, t6, t7, t8, t9, t10, w1, w2])
        exact g4 i hi hj
      have low5 : ∀ i, i < h.nx → o' i = h.o i := fun i hi => by
        rw [ho' i (by omega) (.inl hi)]
        (try simp -implicitDefEqProofs (disch := constructor; omega) [t5, t6, t7, t8, t9, t10, w1, w2])
        rw [g4 i (by omega) (by omega), ho0 i hi]
      clear O' hf' ho'
      (try simp -implicitDefEqProofs (disch := constructor; omega) [↓h12_24, ↓h12_24_1, ↓h12_24_2, ↓h12_24_3, t5, t6, t7, t8, t9, t10, w1, w2])
      refine s12_25 ?_
      refine s12_26 ?_
      simp -implicitDefEqProofs (disch := constructor; omega) [↓h12_27, ↓h12_27_1, t5, t6, t7, t8, t9, t10, w1, w2]
      refine wF_mono (k27s 3 (by omega) (by omega) h.nx j _ (d5.keep (by (try dsimp only [keepOnly_eq]); omega) fun i hi => by simp -implicitDefEqProofs (disch := constructor; omega) [t5, t6, t7, t8, t9, t10, w1, w2]).s) ?_
      rintro _ h6 ⟨⟨K, rfl, hK0, hK3⟩, S6, hn6, ho6⟩
      (try dsimp only at hn6 ho6)
      (try simp -implicitDefEqProofs (disch := constructor; omega) [↓h12_27, ↓h12_27_1, t5, t6, t7, t8, t9, t10, w1, w2])
      refine s12_28 ?_
      obtain ⟨lm', hlm'⟩ : ∃ z, z = lm ++ [(⟨20 * i + v1, v2 == 0⟩ : Mom)] := ⟨_, rfl⟩
      rw [← hlm'] at d5
      obtain ⟨K, rfl⟩ : ∃ k : Nat, K = k := ⟨K.toNat, by omega⟩
      refine s12_29 (fun m s => ∃ (yw : Cell) (lw : List Wt) (fw : Nat), s.t 5 = .v (.one (.ptr j 0)) ∧ s.t 6 = .v (.one x') ∧ s.t 7 = .v (.one yw) ∧ s.t 8 = .v (.one yp)
          ∧ s.t 9 = .v (.one (.int .i64 (1 + N))) ∧ s.t 10 = .v (.one (.int .i64 i)) ∧ s.t 11 = .v (.one (.int .i64 m)) ∧ Del s.h h.nx j x' lm' f' yw lw fw yp lp fp ∧ lw.length + m ≤ 2 * i + 2 ∧ (∀ x ∈ lw, okW (i + 1) x) ∧ h.le s.h) K ?_ ?_
      · refine ⟨yw, lw, fw, by simp -implicitDefEqProofs (disch := constructor; omega) [t5, t6, t7, t8, t9, t10, w1, w2], by simp -implicitDefEqProofs (disch := constructor; omega) [t5, t6, t7, t8, t9, t10, w1, w2], by simp -implicitDefEqProofs (disch := constructor; omega) [t5, t6, t7, t8, t9, t10, w1, w2], by simp -implicitDefEqProofs (disch := constructor; omega) [t5, t6, t7, t8, t9, t10, w1, w2], by simp -implicitDefEqProofs (disch := constructor; omega) [t5, t6, t7, t8, t9, t10, w1, w2], by simp -implicitDefEqProofs (disch := constructor; omega) [t5, t6, t7, t8, t9, t10, w1, w2], by simp -implicitDefEqProofs (disch := constructor; omega) [t5, t6, t7, t8, t9, t10, w1, w2], ?_, by have := M.wl; omega, fun x hx => ?_, (by (try dsimp only [keepOnly_eq]); omega), fun i hi => ?_⟩
        · exact d5.call (S6.keep (by (try dsimp only [keepOnly_eq]); omega) fun i hi => by simp -implicitDefEqProofs (disch := constructor; omega) [t5, t6, t7, t8, t9, t10, w1, w2]) (by (try dsimp only [keepOnly_eq]); omega) fun i hi hj => by
            (try dsimp only at hi)
            (try simp -implicitDefEqProofs (disch := constructor; omega) [t5, t6, t7, t8, t9, t10, w1, w2])
            rw [ho6 i (by omega) hj]
            (try simp -implicitDefEqProofs (disch := constructor; omega) [t5, t6, t7, t8, t9, t10, w1, w2])
        · have := M.w x hx
          unfold okW at this ⊢; omega
        · (try simp -implicitDefEqProofs (disch := constructor; omega) [t5, t6, t7, t8, t9, t10, w1, w2])
          rw [ho6 i (by omega) (by omega)]
          (try simp -implicitDefEqProofs (disch := constructor; omega) [t5, t6, t7, t8, t9, t10, w1, w2])
          exact low5 i hi
      · clear d S S2 S3 S4 S5 S6 d5 low5 g4 ho0 ho6 ho4 ho3 ho2 ho1
        rintro m s Q3 ⟨yw, lw, fw, t5, t6, t7, t8, t9, t10, t11, d, hl, hw, hn0, ho0⟩ hN' hE' hR'
        have lj := d.lj
        have jn := d.jn
        have fin : ∀ s1 : St, s1.t 5 = .v (.one (.ptr j 0)) → s1.t 6 = .v (.one x') → s1.t 7 = .v (.one yw) → s1.t 8 = .v (.one yp) → s1.t 9 = .v (.one (.int .i64 (1 + N))) → s1.t 10 = .v (.one (.int .i64 i)) →
            Del s1.h h.nx j x' lm' f' yw lw fw yp lp fp → h.le s1.h → Q3 (.exit 2) s1 := by
          rintro ⟨st, sh⟩ t5 t6 t7 t8 t9 t10 d ⟨hn0, ho0⟩
          (try dsimp only at t5 t6 t7 t8 t9 t10 d hn0 ho0)
          have lj := d.lj
          have jn := d.jn
          have w5 := wrap64 (show -9223372036854775808 ≤ (i : Int) + 1 by omega) (by omega)
          have hi1 : (i : Int) + 1 = (i + 1 : Nat) := by omega
          refine hE' 2 _ ?_
          (try simp -implicitDefEqProofs (disch := constructor; omega) [t5, t6, t7, t8, t9, t10, w5])
          refine s12_45 ?_
          simp -implicitDefEqProofs (disch := constructor; omega) [↓h12_46, ↓h12_46_1, t5, t6, t7, t8, t9, t10, w5]
          refine wF_mono (k27s 3 (by omega) (by omega) h.nx j _ (d.keep (by (try dsimp only [keepOnly_eq]); omega) fun i hi => by simp -implicitDefEqProofs (disch := constructor; omega) [t5, t6, t7, t8, t9, t10, w5]).s) ?_
          rintro _ h3 ⟨⟨u1, rfl, hu1, hu1'⟩, S3, hn3, ho3⟩
          (try dsimp only at hn3 ho3)
          (try simp -implicitDefEqProofs (disch := constructor; omega) [↓h12_46, ↓h12_46_1, t5, t6, t7, t8, t9, t10, w5])
          refine s12_47 ?_
          simp -implicitDefEqProofs (disch := constructor; omega) [t5, t6, t7, t8, t9, t10, w5]
          have g3 : ∀ i, i < sh.nx → i ≠ j → h3.o i = sh.o i := fun i hi hj => by rw [ho3 i (by omega) hj]
          have hml : lm'.length = i + 1 := by rw [hlm']; simp [M.ml]
          have hmm : ∀ x ∈ lm', okM x := fun x hx => by
            rw [hlm'] at hx
            rcases List.mem_append.1 hx with hx | hx
            · exact M.m x hx
            · simp at hx
              subst hx
              (refine ⟨?_, ?_⟩ <;> (try dsimp only) <;> omega)
          by_cases hu : u1 = 0
          · skip
            (try simp -implicitDefEqProofs (disch := constructor; omega) [t5, t6, t7, t8, t9, t10, w5, hu])
            refine s12_48 ?_
            simp -implicitDefEqProofs (disch := constructor; omega) [↓h12_48, ↓h12_48_1, ↓h12_48_2, t5, t6, t7, t8, t9, t10, w5, hu]
            refine wF_mono (k27s 60 (by omega) (by omega) h.nx j _ (S3.keep (by (try dsimp only [keepOnly_eq]); omega) fun i hi => by simp -implicitDefEqProofs (disch := constructor; omega) [t5, t6, t7, t8, t9, t10, w5, hu])) ?_
            rintro _ h4 ⟨⟨u2, rfl, hu2, hu2'⟩, S4, hn4, ho4⟩
            (try dsimp only at hn4 ho4)
            (try simp -implicitDefEqProofs (disch := constructor; omega) [↓h12_48, ↓h12_48_1, ↓h12_48_2, t5, t6, t7, t8, t9, t10, w5, hu])
            have g4 : ∀ i, i < sh.nx → i ≠ j → h4.o i = sh.o i := fun i hi hj => by rw [ho4 i (by omega) hj, g3 i hi hj]
            refine app_own (f := fp) (lo := h.nx) (n := sh.nx) (x := yp) (l := lp) (l2 := [⟨i, u2⟩]) (enc := enPr) ?_ ?_ ?_ (src_one (f := h3.nx + 5) (ro := false) (e := 39) (s := 2) (w := 2) ?_ rfl) enPr_len enPr_solid (show 0 < 2 by omega) ⟨?_, ?_⟩ ?_
            · (try dsimp only)
              omega
            · (try dsimp only)
              omega
            · exact d.ownP fun i hi hj => by simp -implicitDefEqProofs (disch := constructor; omega) [t5, t6, t7, t8, t9, t10, w5, hu]; exact g4 i hi hj
            · (try simp -implicitDefEqProofs (disch := constructor; omega) [t5, t6, t7, t8, t9, t10, w5, hu, enPr])
            · simp; have := M.pl; omega
            · simp; have := M.pl; omega
            rintro y2 f2 o2 O2 hf2 ho2
            (try dsimp only at ho2 hf2 O2)
            have S6 : Src ⟨o2, h4.nx⟩ h.nx j := srcF S4 d.pj (Nat.le_refl _) (by omega) (by omega) (fun i hi => by simp -implicitDefEqProofs (disch := constructor; omega) [t5, t6, t7, t8, t9, t10, w5, hu]) ho2
            have d6 : Del ⟨o2, h4.nx⟩ h.nx j x' lm' f' yw lw fw y2 (lp ++ [⟨i, u2⟩]) f2 := by
              refine d.setP S6 (by (try dsimp only); omega) (fun i hi hj hc => ?_) (O2.keep' (by (try dsimp only); omega) fun _ _ => rfl) (by (try dsimp only); omega)
              have g := ho2 i (by omega) (by
                rcases hc with hc | hc
                · exact .inl hc
                · right; simp -implicitDefEqProofs (disch := constructor; omega) [t5, t6, t7, t8, t9, t10, w5, hu, g4 i hi hj]; exact hc)
              (try dsimp only)
              rw [g]
              (try simp -implicitDefEqProofs (disch := constructor; omega) [t5, t6, t7, t8, t9, t10, w5, hu])
              exact g4 i hi hj
            have low6 : ∀ i, i < h.nx → o2 i = h.o i := fun i hi => by
              rw [ho2 i (by omega) (.inl hi)]
              (try simp -implicitDefEqProofs (disch := constructor; omega) [t5, t6, t7, t8, t9, t10, w5, hu])
              rw [g4 i (by omega) (by omega), ho0 i hi]
            clear hf2 ho2
            (try simp -implicitDefEqProofs (disch := constructor; omega) [↓h12_48, ↓h12_48_1, ↓h12_48_2, t5, t6, t7, t8, t9, t10, w5, hu])
            refine s12_49 ?_
            simp -implicitDefEqProofs (disch := constructor; omega) [↓h12_49, t5, t6, t7, t8, t9, t10, w5, hu]
            refine hN (mo - 1) _ (by omega) ?_
            dsimp only [keepOnly_eq]
            refine ⟨i + 1, x', lm', f', yw, lw, fw, y2, lp ++ [⟨i, u2⟩], f2, by omega, by simp -implicitDefEqProofs (disch := constructor; omega) [t5, t6, t7, t8, t9, t10, w5, hu], by simp -implicitDefEqProofs (disch := constructor; omega) [t5, t6, t7, t8, t9, t10, w5, hu], by simp -implicitDefEqProofs (disch := constructor; omega) [t5, t6, t7, t8, t9, t10, w5, hu], by simp -implicitDefEqProofs (disch := constructor; omega) [t5, t6, t7, t8, t9, t10, w5, hu], by simp -implicitDefEqProofs (disch := constructor; omega) [t5, t6, t7, t8, t9, t10, w5, hu], by simp -implicitDefEqProofs (disch := constructor; omega) [t5, t6, t7, t8, t9, t10, w5, hu], d6.keep (by (try dsimp only [keepOnly_eq]); omega) fun i hi => by simp -implicitDefEqProofs (disch := constructor; omega) [t5, t6, t7, t8, t9, t10, w5, hu], ?_, (by (try dsimp only [keepOnly_eq]); omega), fun i hi => ?_⟩
            · refine ⟨by omega, hml, by omega, by simp; have := M.pl; omega, hmm, hw, fun x hx => ?_, ?_⟩
              · rcases List.mem_append.1 hx with hx | hx
                · have := M.p x hx
                  unfold okR at this ⊢; omega
                · simp at hx
                  subst hx
                  (refine ⟨?_, ?_, ?_, ?_⟩ <;> (try dsimp only) <;> omega)
              · rw [List.map_append, List.map_cons, List.map_nil]
                refine List.nodup_append.2 ⟨M.pd, by simp, fun a ha b hb e => ?_⟩
                simp at hb
                obtain ⟨p, hp, rfl⟩ := List.mem_map.1 ha
                have := (M.p p hp).2.1
                omega
            · (try simp -implicitDefEqProofs (disch := constructor; omega) [t5, t6, t7, t8, t9, t10, w5, hu])
              exact low6 i hi
          · skip
            (try simp -implicitDefEqProofs (disch := constructor; omega) [t5, t6, t7, t8, t9, t10, w5, hu])
            refine s12_49 ?_
            simp -implicitDefEqProofs (disch := constructor; omega) [↓h12_49, t5, t6, t7, t8, t9, t10, w5, hu]
            refine hN (mo - 1) _ (by omega) ?_
            dsimp only [keepOnly_eq]
            refine ⟨i + 1, x', lm', f', yw, lw, fw, yp, lp, fp, by omega, by simp -implicitDefEqProofs (disch := constructor; omega) [t5, t6, t7, t8, t9, t10, w5, hu], by simp -implicitDefEqProofs (disch := constructor; omega) [t5, t6, t7, t8, t9, t10, w5, hu], by simp -implicitDefEqProofs (disch := constructor; omega) [t5, t6, t7, t8, t9, t10, w5, hu], by simp -implicitDefEqProofs (disch := constructor; omega) [t5, t6, t7, t8, t9, t10, w5, hu], by simp -implicitDefEqProofs (disch := constructor; omega) [t5, t6, t7, t8, t9, t10, w5, hu], by simp -implicitDefEqProofs (disch := constructor; omega) [t5, t6, t7, t8, t9, t10, w5, hu], d.call (S3.keep (by (try dsimp only [keepOnly_eq]); omega) fun i hi => by simp -implicitDefEqProofs (disch := constructor; omega) [t5, t6, t7, t8, t9, t10, w5, hu]) (by (try dsimp only [keepOnly_eq]); omega) (fun i hi hj => by simp -implicitDefEqProofs (disch := constructor; omega) [t5, t6, t7, t8, t9, t10, w5, hu]; exact g3 i hi hj), ?_, (by (try dsimp only [keepOnly_eq]); omega), fun i hi => ?_⟩
            · exact ⟨by omega, hml, by omega, by have := M.pl; omega, hmm, hw, fun x hx => by have := M.p x hx; unfold okR at this ⊢; omega, M.pd⟩
            · (try simp -implicitDefEqProofs (disch := constructor; omega) [t5, t6, t7, t8, t9, t10, w5, hu])
              rw [g3 i (by omega) (by omega)]
              exact ho0 i hi
        refine s12_30 ?_
        refine s12_31 ?_
        by_cases hk : 0 < m
        · by_cases hi0 : 0 < i
          · (try simp -implicitDefEqProofs (disch := constructor; omega) [↓h12_32, ↓w12_32_1, ↓h12_32_1g, ↓h12_32_2, t5, t6, t7, t8, t9, t10, t11, hk, hi0])
            refine s12_33 ?_
            simp -implicitDefEqProofs (disch := constructor; omega) [t5, t6, t7, t8, t9, t10, t11]
            refine s12_34 ?_
            refine s12_35 ?_
            refine s12_36 ?_
            simp -implicitDefEqProofs (disch := constructor; omega) [↓h12_37, ↓h12_37_1, ↓h12_37_2, ↓h12_37_3, ↓h12_37_4, t5, t6, t7, t8, t9, t10, t11]
            refine wF_mono (k27s i (by omega) (by omega) h.nx j _ (d.keep (by (try dsimp only [keepOnly_eq]); omega) fun i hi => by simp -implicitDefEqProofs (disch := constructor; omega) [t5, t6, t7, t8, t9, t10, t11]).s) ?_
            rintro _ h3 ⟨⟨u1, rfl, hu1, hu1'⟩, S3, hn3, ho3⟩
            (try dsimp only at hn3 ho3)
            (try simp -implicitDefEqProofs (disch := constructor; omega) [↓h12_37, ↓h12_37_1, ↓h12_37_2, ↓h12_37_3, ↓h12_37_4, t5, t6, t7, t8, t9, t10, t11])
            refine wF_mono (k27s 40 (by omega) (by omega) h.nx j _ (S3.keep (by (try dsimp only [keepOnly_eq]); omega) fun i hi => by simp -implicitDefEqProofs (disch := constructor; omega) [t5, t6, t7, t8, t9, t10, t11])) ?_
            rintro _ h4 ⟨⟨u2, rfl, hu2, hu2'⟩, S4, hn4, ho4⟩
            (try dsimp only at hn4 ho4)
            (try simp -implicitDefEqProofs (disch := constructor; omega) [↓h12_37, ↓h12_37_1, ↓h12_37_2, ↓h12_37_3, ↓h12_37_4, t5, t6, t7, t8, t9, t10, t11])
            refine wF_mono (k27s 50 (by omega) (by omega) h.nx j _ (S4.keep (by (try dsimp only [keepOnly_eq]); omega) fun i hi => by simp -implicitDefEqProofs (disch := constructor; omega) [t5, t6, t7, t8, t9, t10, t11])) ?_
            rintro _ h5 ⟨⟨u3, rfl, hu3, hu3'⟩, S5, hn5, ho5⟩
            (try dsimp only at hn5 ho5)
            have w3 := wrap64 (show -9223372036854775808 ≤ u3 - 25 by omega) (by omega)
            (try simp -implicitDefEqProofs (disch := constructor; omega) [↓h12_37, ↓h12_37_1, ↓h12_37_2, ↓h12_37_3, ↓h12_37_4, t5, t6, t7, t8, t9, t10, t11, w3])
            have g5 : ∀ i, i < s.h.nx → i ≠ j → h5.o i = s.h.o i := fun i hi hj => by rw [ho5 i (by omega) hj, ho4 i (by omega) hj, ho3 i (by omega) hj]
            refine app_own (f := fw) (lo := h.nx) (n := s.h.nx) (x := yw) (l := lw) (l2 := [⟨u1, i, u2, u3 - 25⟩]) (enc := enW) ?_ ?_ ?_ (src_one (f := s.h.nx + 6 + 11) (ro := false) (e := 35) (s := 4) (w := 4) ?_ rfl) enW_len enW_solid (show 0 < 4 by omega) ⟨?_, ?_⟩ ?_
            · (try dsimp only)
              omega
            · (try dsimp only)
              omega
            · exact d.ownW fun i hi hj => by simp -implicitDefEqProofs (disch := constructor; omega) [t5, t6, t7, t8, t9, t10, t11, w3]; exact g5 i hi hj
            · (try simp -implicitDefEqProofs (disch := constructor; omega) [t5, t6, t7, t8, t9, t10, t11, w3, enW])
            · simp; omega
            · simp; omega
            rintro y2 f2 o2 O2 hf2 ho2
            (try dsimp only at ho2 hf2 O2)
            have S6 : Src ⟨o2, h5.nx⟩ h.nx j := srcF S5 d.wj (Nat.le_refl _) (by omega) (by omega) (fun i hi => by simp -implicitDefEqProofs (disch := constructor; omega) [t5, t6, t7, t8, t9, t10, t11, w3]) ho2
            have d6 : Del ⟨o2, h5.nx⟩ h.nx j x' lm' f' y2 (lw ++ [⟨u1, i, u2, u3 - 25⟩]) f2 yp lp fp := by
              refine d.setW S6 (by (try dsimp only); omega) (fun i hi hj hc => ?_) (O2.keep' (by (try dsimp only); omega) fun _ _ => rfl) (by (try dsimp only); omega)
              have g := ho2 i (by omega) (by
                rcases hc with hc | hc
                · exact .inl hc
                · right; simp -implicitDefEqProofs (disch := constructor; omega) [t5, t6, t7, t8, t9, t10, t11, w3, g5 i hi hj]; exact hc)
              (try dsimp only)
              rw [g]
              (try simp -implicitDefEqProofs (disch := constructor; omega) [t5, t6, t7, t8, t9, t10, t11, w3])
              exact g5 i hi hj
            have low6 : ∀ i, i < h.nx → o2 i = h.o i := fun i hi => by
              rw [ho2 i (by omega) (.inl hi)]
              (try simp -implicitDefEqProofs (disch := constructor; omega) [t5, t6, t7, t8, t9, t10, t11, w3])
              rw [g5 i (by omega) (by omega), ho0 i hi]
            clear hf2 ho2
            obtain ⟨L, hL⟩ : ∃ L, L = lw.length := ⟨_, rfl⟩
            obtain ⟨lw', hlw⟩ : ∃ z, z = lw ++ [(⟨u1, i, u2, u3 - 25⟩ : Wt)] := ⟨_, rfl⟩
            rw [← hlw] at O2 d6
            have hL' : lw'.length = L + 1 := by rw [hlw, hL]; simp
            rcases O2 with ⟨_, hnil⟩ | ⟨q2, rfl, hq2, hlf, hfq, hqn⟩
            · rw [hnil] at hL'; simp at hL'
            rw [hL'] at d6
            rw [hL']
            have w4 := wrap64 (show -9223372036854775808 ≤ (L : Int) by omega) (by omega)
            have hLL : L < lw'.length := by omega
            have hget : lw'[L]'hLL = ⟨u1, i, u2, u3 - 25⟩ := by simp [hlw, hL]
            have g1 := rows_get1 enW_len lw' (i := L) (k := 3) hLL (by omega)
            rw [hget] at g1
            have hfl : (lw'.flatMap enW).length = (L + 1) * 4 := by rw [rows_len enW_len, hL']
            have hl1 : (L : Int) < (L : Int) + 1 := by omega
            have h43 : L * 4 + 3 < (L + 1) * 4 := by omega
            have g2 := rows_set1 enW_len lw' (i := L) (k := 3) (c := .int .i64 (-1)) (a := ⟨u1, i, u2, -1⟩) hLL (by omega) (by rw [hget]; rfl)
            have hset : lw'.set L ⟨u1, i, u2, -1⟩ = lw ++ [⟨u1, i, u2, -1⟩] := by rw [hlw, hL]; simp
            rw [hset] at g2
            have wm := wrap64 (show -9223372036854775808 ≤ (m : Int) - 1 by omega) (by omega)
            have hm1 : (m : Int) - 1 = (m - 1 : Nat) := by omega
            (try simp -implicitDefEqProofs (disch := constructor; omega) [↓h12_37, ↓h12_37_1, ↓h12_37_2, ↓h12_37_3, ↓h12_37_4, t5, t6, t7, t8, t9, t10, t11, w3, w4, hq2, g1, enW, hl1, hfl, h43, g2])
            refine s12_38 ?_
            simp -implicitDefEqProofs (disch := constructor; omega) [↓h12_39, t5, t6, t7, t8, t9, t10, t11, w3, w4, hq2, g1, enW, hl1, hfl, h43, g2]
            refine s12_40 ?_
            simp -implicitDefEqProofs (disch := constructor; omega) [↓h12_41, t5, t6, t7, t8, t9, t10, t11, w3, w4, hq2, g1, enW, hl1, hfl, h43, g2]
            refine s12_42 ?_
            simp -implicitDefEqProofs (disch := constructor; omega) [t5, t6, t7, t8, t9, t10, t11, w3, w4, hq2, g1, enW, hl1, hfl, h43, g2]
            by_cases hneg : u3 - 25 < 0
            · skip
              (try simp -implicitDefEqProofs (disch := constructor; omega) [t5, t6, t7, t8, t9, t10, t11, w3, w4, hq2, g1, enW, hl1, hfl, h43, g2, hneg, wm])
              refine s12_43 ?_
              simp -implicitDefEqProofs (disch := constructor; omega) [↓h12_43, t5, t6, t7, t8, t9, t10, t11, w3, w4, hq2, g1, enW, hl1, hfl, h43, g2, hneg, wm]
              refine s12_44 ?_
              simp -implicitDefEqProofs (disch := constructor; omega) [↓h12_44, t5, t6, t7, t8, t9, t10, t11, w3, w4, hq2, g1, enW, hl1, hfl, h43, g2, hneg, wm]
              have kb : ∀ (c : Option AObj) i, i ≠ q2 → i < h.nx ∨ notFam f2 (o2 i) → upd (killBut f2 q2 o2) q2 c i = o2 i := fun c i h1 h2 => by
                rw [updO_ne _ _ _ _ ⟨h1⟩]
                rcases h2 with h2 | h2
                · exact killBut_old (by omega)
                · exact killBut_not h2
              have hqj : j ≠ q2 := fun e => d6.s.own (e ▸ hq2)
              refine hN' (m - 1) _ (by omega) ?_
              dsimp only [keepOnly_eq]
              refine ⟨.slice q2 0 (L + 1), lw ++ [⟨u1, i, u2, -1⟩], f2, by simp -implicitDefEqProofs (disch := constructor; omega) [t5, t6, t7, t8, t9, t10, t11, w3, w4, hq2, g1, enW, hl1, hfl, h43, g2, hneg, wm], by simp -implicitDefEqProofs (disch := constructor; omega) [t5, t6, t7, t8, t9, t10, t11, w3, w4, hq2, g1, enW, hl1, hfl, h43, g2, hneg, wm], by simp -implicitDefEqProofs (disch := constructor; omega) [t5, t6, t7, t8, t9, t10, t11, w3, w4, hq2, g1, enW, hl1, hfl, h43, g2, hneg, wm], by simp -implicitDefEqProofs (disch := constructor; omega) [t5, t6, t7, t8, t9, t10, t11, w3, w4, hq2, g1, enW, hl1, hfl, h43, g2, hneg, wm], by simp -implicitDefEqProofs (disch := constructor; omega) [t5, t6, t7, t8, t9, t10, t11, w3, w4, hq2, g1, enW, hl1, hfl, h43, g2, hneg, wm], by simp -implicitDefEqProofs (disch := constructor; omega) [t5, t6, t7, t8, t9, t10, t11, w3, w4, hq2, g1, enW, hl1, hfl, h43, g2, hneg, wm], by simp -implicitDefEqProofs (disch := constructor; omega) [t5, t6, t7, t8, t9, t10, t11, w3, w4, hq2, g1, enW, hl1, hfl, h43, g2, hneg, wm, hm1], ?_, by simp; omega, ?_, (by (try dsimp only [keepOnly_eq]); omega), fun i hi => (kb _ i (by omega) (.inl hi)).trans (low6 i hi)⟩
              · refine d6.setW (d6.s.keep (by (try dsimp only [keepOnly_eq]); omega) fun i hi => ?_) (by (try dsimp only [keepOnly_eq]); omega) (fun i hi hj hc => ?_) ?_ (.inl rfl)
                · refine kb _ i (by omega) ?_
                  rcases hi with hi | rfl
                  · exact .inl hi
                  · obtain ⟨x, l, p, v, a, b, c, _⟩ := d6.s
                    have := d6.wj
                    exact .inr (by rw [show o2 _ = _ from c]; exact fun e => this e.symm)
                · by_cases hiq : i = q2
                  · subst hiq
                    rcases hc with hc | hc
                    · omega
                    · exact absurd rfl (show f2 ≠ f2 by (have := hc; rw [show ({ o := o2, nx := h5.nx } : AH).o i = _ from hq2] at this; exact this))
                  · exact kb _ i hiq hc
                · exact .inr ⟨q2, by simp [hL], by simp -implicitDefEqProofs (disch := constructor; omega) [t5, t6, t7, t8, t9, t10, t11, w3, w4, hq2, g1, enW, hl1, hfl, h43, g2, hneg, wm], hlf, hfq, (by (try dsimp only [keepOnly_eq]); omega)⟩
              · intro x hx
                rcases List.mem_append.1 hx with hx | hx
                · exact hw x hx
                · simp at hx
                  subst hx
                  (refine ⟨?_, ?_, ?_, ?_, ?_, ?_, ?_⟩ <;> (try dsimp only) <;> omega)
            · skip
              (try simp -implicitDefEqProofs (disch := constructor; omega) [t5, t6, t7, t8, t9, t10, t11, w3, w4, hq2, g1, enW, hl1, hfl, h43, g2, hneg, wm])
              refine s12_44 ?_
              simp -implicitDefEqProofs (disch := constructor; omega) [↓h12_44, t5, t6, t7, t8, t9, t10, t11, w3, w4, hq2, g1, enW, hl1, hfl, h43, g2, hneg, wm]
              refine hN' (m - 1) _ (by omega) ?_
              dsimp only [keepOnly_eq]
              refine ⟨.slice q2 0 (L + 1), lw', f2, by simp -implicitDefEqProofs (disch := constructor; omega) [t5, t6, t7, t8, t9, t10, t11, w3, w4, hq2, g1, enW, hl1, hfl, h43, g2, hneg, wm], by simp -implicitDefEqProofs (disch := constructor; omega) [t5, t6, t7, t8, t9, t10, t11, w3, w4, hq2, g1, enW, hl1, hfl, h43, g2, hneg, wm], by simp -implicitDefEqProofs (disch := constructor; omega) [t5, t6, t7, t8, t9, t10, t11, w3, w4, hq2, g1, enW, hl1, hfl, h43, g2, hneg, wm], by simp -implicitDefEqProofs (disch := constructor; omega) [t5, t6, t7, t8, t9, t10, t11, w3, w4, hq2, g1, enW, hl1, hfl, h43, g2, hneg, wm], by simp -implicitDefEqProofs (disch := constructor; omega) [t5, t6, t7, t8, t9, t10, t11, w3, w4, hq2, g1, enW, hl1, hfl, h43, g2, hneg, wm], by simp -implicitDefEqProofs (disch := constructor; omega) [t5, t6, t7, t8, t9, t10, t11, w3, w4, hq2, g1, enW, hl1, hfl, h43, g2, hneg, wm], by simp -implicitDefEqProofs (disch := constructor; omega) [t5, t6, t7, t8, t9, t10, t11, w3, w4, hq2, g1, enW, hl1, hfl, h43, g2, hneg, wm, hm1], d6.keep (by (try dsimp only [keepOnly_eq]); omega) fun i hi => by simp -implicitDefEqProofs (disch := constructor; omega) [t5, t6, t7, t8, t9, t10, t11, w3, w4, hq2, g1, enW, hl1, hfl, h43, g2, hneg, wm], by omega, ?_, (by (try dsimp only [keepOnly_eq]); omega), fun i hi => by simp -implicitDefEqProofs (disch := constructor; omega) [t5, t6, t7, t8, t9, t10, t11, w3, w4, hq2, g1, enW, hl1, hfl, h43, g2, hneg, wm]; exact low6 i hi⟩
              intro x hx
              rw [hlw] at hx
              rcases List.mem_append.1 hx with hx | hx
              · exact hw x hx
              · simp at hx
                subst hx
                (refine ⟨?_, ?_, ?_, ?_, ?_, ?_, ?_⟩ <;> (try dsimp only) <;> omega)
          · obtain rfl : i = 0 := by omega
            (try simp -implicitDefEqProofs (disch := constructor; omega) [↓h12_32, ↓w12_32_1, ↓h12_32_1g, ↓h12_32_2, t5, t6, t7, t8, t9, t10, t11, hk])
            refine s12_33 ?_
            simp -implicitDefEqProofs (disch := constructor; omega) [t5, t6, t7, t8, t9, t10, t11]
            exact fin _ (by simp -implicitDefEqProofs (disch := constructor; omega) [t5, t6, t7, t8, t9, t10, t11]) (by simp -implicitDefEqProofs (disch := constructor; omega) [t5, t6, t7, t8, t9, t10, t11]) (by simp -implicitDefEqProofs (disch := constructor; omega) [t5, t6, t7, t8, t9, t10, t11]) (by simp -implicitDefEqProofs (disch := constructor; omega) [t5, t6, t7, t8, t9, t10, t11]) (by simp -implicitDefEqProofs (disch := constructor; omega) [t5, t6, t7, t8, t9, t10, t11]) (by simp -implicitDefEqProofs (disch := constructor; omega) [t5, t6, t7, t8, t9, t10, t11]) (d.keep (by (try dsimp only [keepOnly_eq]); omega) fun i hi => by simp -implicitDefEqProofs (disch := constructor; omega) [t5, t6, t7, t8, t9, t10, t11]) ⟨(by (try dsimp only [keepOnly_eq]); omega), fun i hi => by simp -implicitDefEqProofs (disch := constructor; omega) [t5, t6, t7, t8, t9, t10, t11]; exact ho0 i hi⟩
        · obtain rfl : m = 0 := by omega
          (try simp -implicitDefEqProofs (disch := constructor; omega) [↓h12_32, ↓w12_32_1, ↓h12_32_1g, ↓h12_32_2, t5, t6, t7, t8, t9, t10, t11])
          refine s12_33 ?_
          simp -implicitDefEqProofs (disch := constructor; omega) [t5, t6, t7, t8, t9, t10, t11]
          exact fin _ (by simp -implicitDefEqProofs (disch := constructor; omega) [t5, t6, t7, t8, t9, t10, t11]) (by simp -implicitDefEqProofs (disch := constructor; omega) [t5, t6, t7, t8, t9, t10, t11]) (by simp -implicitDefEqProofs (disch := constructor; omega) [t5, t6, t7, t8, t9, t10, t11]) (by simp -implicitDefEqProofs (disch := constructor; omega) [t5, t6, t7, t8, t9, t10, t11]) (by simp -implicitDefEqProofs (disch := constructor; omega) [t5, t6, t7, t8, t9, t10, t11]) (by simp -implicitDefEqProofs (disch := constructor; omega) [t5, t6, t7, t8, t9, t10, t11]) (d.keep (by (try dsimp only [keepOnly_eq]); omega) fun i hi => by simp -implicitDefEqProofs (disch := constructor; omega) [t5, t6, t7, t8, t9, t10, t11]) ⟨(by (try dsimp only [keepOnly_eq]); omega), fun i hi => by simp -implicitDefEqProofs (disch := constructor; omega) [t5, t6, t7, t8, t9, t10, t11]; exact ho0 i hi⟩
    · rename_i hi
      refine hE 0 _ ?_
      (try simp -implicitDefEqProofs (disch := constructor; omega) [t5, t6, t7, t8, t9, t10])
      refine s12_50 ?_
      simp -implicitDefEqProofs (disch := constructor; omega) [↓h12_51, t5, t6, t7, t8, t9, t10]
      have M' := M
      rw [← M.ml] at M'
      refine hQ _ _ _ (.inr rfl) (by simp only [resc, resv, List.mapM_cons, List.mapM_nil, a12]; simp -implicitDefEqProofs (disch := constructor; omega) [t5, t6, t7, t8, t9, t10]; rfl) ⟨ym, lm, fm, yw, lw, fw, yp, lp, fp, j, rfl, d.keep (by (try dsimp only [keepOnly_eq]); omega) fun i hi => by simp -implicitDefEqProofs (disch := constructor; omega) [t5, t6, t7, t8, t9, t10], M', by have := M.ml; omega, (by (try dsimp only [keepOnly_eq]); omega), fun i hi => ?_⟩
      (try simp -implicitDefEqProofs (disch := constructor; omega) [t5, t6, t7, t8, t9, t10])
      exact ho0 i hi
end Go.Proofs.Ythoicdnlcnppgaa.Fn
