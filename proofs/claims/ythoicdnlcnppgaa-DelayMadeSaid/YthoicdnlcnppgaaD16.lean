/- Contracts: Cause. Conditions: none. -/
import Derived.Test.YthoicdnlcnppgaaD15
set_option linter.unusedVariables false
set_option linter.unusedSimpArgs false
namespace Go.Proofs.Ythoicdnlcnppgaa.Fn
open Go Go.Am
set_option maxRecDepth 100000
set_option maxHeartbeats 1000000
/-- Wait k explains moment i. -/
def okC (m : List Mom) (w : List Wt) (b a : Int → Int) (kp : Int → Bool) (i : Int) (k : Nat) : Prop :=
  ∃ hk : k < w.length, w[k].t = i ∧ kp k = true ∧ a w[k].f + w[k].mn = b i ∧ ¬ ((momS m i).hold = true ∧ b i ≤ (momS m i).t)
inductive Ch (m : List Mom) (w : List Wt) (b a : Int → Int) (kp : Int → Bool) : Int → List Int → Prop where
  | nil {i : Int} : (∀ k, ¬ okC m w b a kp i k) → Ch m w b a kp i []
  | cons {i : Int} {k : Nat} {l : List Int} (hk : k < w.length) : okC m w b a kp i k → (∀ k', k' < k → ¬ okC m w b a kp i k') → Ch m w b a kp w[k].f l → Ch m w b a kp i ((k : Int) :: l)
theorem Ch.uniq {m : List Mom} {w : List Wt} {b a : Int → Int} {kp : Int → Bool} {i : Int} {l : List Int} (C : Ch m w b a kp i l) : ∀ l', Ch m w b a kp i l' → l = l' := by
  induction C with
  | nil h =>
    intro l' C'
    cases C' with
    | nil _ => rfl
    | cons hk h1 _ _ => exact absurd h1 (h _)
  | cons hk h1 h2 _ ih =>
    intro l' C'
    cases C' with
    | nil h => exact absurd h1 (h _)
    | @cons _ k' l' hk' h1' h2' C' =>
      rename_i k l _
      have e : k = k' := by
        rcases Nat.lt_trichotomy k k' with h | h | h
        · exact absurd h1 (h2' _ h)
        · exact h
        · exact absurd h1' (h2 _ h)
      subst e
      rw [ih _ C']
theorem okC_congr {m : List Mom} {w : List Wt} {b a b' a' : Int → Int} {kp kp' : Int → Bool} (hw : ∀ x ∈ w, inW m.length x) (h : ∀ v : Int, 0 ≤ v → v < m.length → b v = b' v ∧ a v = a' v) (hk : ∀ k : Nat, k < w.length → kp k = kp' k) {i : Int} (h0 : 0 ≤ i) (h1 : i < m.length) (k : Nat) :
    okC m w b a kp i k ↔ okC m w b' a' kp' i k := by
  unfold okC
  constructor
  · rintro ⟨hkw, e1, e2, e3, e4⟩
    have hx := hw _ (List.getElem_mem hkw)
    rw [(h i h0 h1).1] at e3 e4
    rw [(h _ hx.1 hx.2.1).2] at e3
    rw [hk k hkw] at e2
    exact ⟨hkw, e1, e2, e3, e4⟩
  · rintro ⟨hkw, e1, e2, e3, e4⟩
    have hx := hw _ (List.getElem_mem hkw)
    rw [← (h i h0 h1).1] at e3 e4
    rw [← (h _ hx.1 hx.2.1).2] at e3
    rw [← hk k hkw] at e2
    exact ⟨hkw, e1, e2, e3, e4⟩
theorem Ch.congr {m : List Mom} {w : List Wt} {b a b' a' : Int → Int} {kp kp' : Int → Bool} (hw : ∀ x ∈ w, inW m.length x) (h : ∀ v : Int, 0 ≤ v → v < m.length → b v = b' v ∧ a v = a' v) (hk : ∀ k : Nat, k < w.length → kp k = kp' k) {i : Int} {l : List Int} (C : Ch m w b a kp i l) :
    0 ≤ i → i < m.length → Ch m w b' a' kp' i l := by
  induction C with
  | nil hn => exact fun h0 h1 => .nil fun k hc => hn k ((okC_congr hw h hk h0 h1 k).2 hc)
  | cons hkw c1 c2 _ ih =>
    intro h0 h1
    have hx := hw _ (List.getElem_mem hkw)
    exact .cons hkw ((okC_congr hw h hk h0 h1 _).1 c1) (fun k' hk' hc => c2 k' hk' ((okC_congr hw h hk h0 h1 k').2 hc)) (ih hx.1 hx.2.1)
/-- The results of Cause. -/
def CauseR (m : List Mom) (w : List Wt) (p : List Pr) (i : Int) (r : T) (h' : AH) : Prop :=
  (¬ Valid m w p ∧ r = .tup [.one .nils, .one (.int .i64 1)]) ∨ (Valid m w p ∧ ¬ (0 ≤ i ∧ i < m.length) ∧ r = .tup [.one .nils, .one (.int .i64 4)]) ∨
  ∃ y l b a kp, Valid m w p ∧ (0 ≤ i ∧ i < m.length) ∧ r = .tup [.one y, .one (.int .i64 0)] ∧ View h'.o h'.nx y enI l ∧ PropQ m w p b a kp ∧ Ch m w b a kp i l
theorem k20 (xm xw xp : Cell) (m : List Mom) (w : List Wt) (p : List Pr) (i0 : Int) (h : AH) (vm : View h.o h.nx xm enM m) (vw : View h.o h.nx xw enW w) (vp : View h.o h.nx xp enPr p)
    (hm : m.length < 9223372036854775807) (hw : w.length < 9223372036854775807) (hp : p.length < 9223372036854775807) :
    wF fs out 20 [.v (.one xm), .v (.one xw), .v (.one xp), .v (.one (.int .i64 i0))] h fun r h' => CauseR m w p i0 r h' ∧ h.le h' := by
  refine wF_fn fs20 rfl fun Q hQ => ?_
  refine s20_0 ?_
  simp -implicitDefEqProofs (disch := constructor; omega) [↓h20_1]
  refine s20_2 ?_
  refine s20_3 ?_
  simp -implicitDefEqProofs (disch := constructor; omega) [↓h20_4, ↓h20_4_1]
  refine wF_mono (k22 xm xw xp m w p _ (vm.keep (by (try dsimp only [keepOnly_eq]); omega) fun i hi => by simp -implicitDefEqProofs (disch := constructor; omega)) (vw.keep (by (try dsimp only [keepOnly_eq]); omega) fun i hi => by simp -implicitDefEqProofs (disch := constructor; omega)) (vp.keep (by (try dsimp only [keepOnly_eq]); omega) fun i hi => by simp -implicitDefEqProofs (disch := constructor; omega)) hm hw hp) ?_
  rintro _ h1 ⟨b, rfl, hb, hle1⟩
  obtain ⟨hn1, ho1⟩ := hle1
  (try dsimp only at hn1 ho1)
  (try simp -implicitDefEqProofs (disch := constructor; omega) [↓h20_4, ↓h20_4_1])
  refine s20_5 ?_
  simp -implicitDefEqProofs (disch := constructor; omega)
  cases b with
  | false =>
    (try simp -implicitDefEqProofs (disch := constructor; omega))
    refine s20_6 ?_
    simp -implicitDefEqProofs (disch := constructor; omega) [↓h20_7]
    refine hQ _ _ _ (.inr rfl) (by simp only [resc, resv, List.mapM_cons, List.mapM_nil, a20]; simp -implicitDefEqProofs (disch := constructor; omega); rfl) ⟨.inl ⟨by simpa using hb, rfl⟩, (by (try dsimp only [keepOnly_eq]); omega), fun i hi => ?_⟩
    exact ho1 i (by omega)
  | true =>
    have V := hb.1 rfl
    have low1 : ∀ i, i < h.nx → h1.o i = h.o i := fun i hi => ho1 i (by omega)
    have vm1 := vm.keep (n' := h1.nx) (by omega) low1
    have vw1 := vw.keep (n' := h1.nx) (by omega) low1
    have vp1 := vp.keep (n' := h1.nx) (by omega) low1
    have lenm := vm1.lenV (fs := fs) (out := out)
    have lenw := vw1.lenV (fs := fs) (out := out)
    have hml := V.ml
    have hwl := V.wl
    rcases (Classical.em (0 ≤ i0)).symm with e0 | d0
    · have f0 := eq_false e0
      (try simp -implicitDefEqProofs (disch := constructor; omega) [lenm, f0])
      refine s20_8 ?_
      refine s20_9 ?_
      simp -implicitDefEqProofs (disch := constructor; omega) [↓h20_10, ↓w20_10_1, ↓h20_10_1g, ↓h20_10_2, lenm, f0]
      refine s20_11 ?_
      simp -implicitDefEqProofs (disch := constructor; omega) [lenm, f0]
      refine s20_12 ?_
      simp -implicitDefEqProofs (disch := constructor; omega) [↓h20_13, lenm, f0]
      refine hQ _ _ _ (.inr rfl) (by simp only [resc, resv, List.mapM_cons, List.mapM_nil, a20]; simp -implicitDefEqProofs (disch := constructor; omega) [lenm, f0]; rfl) ⟨.inr (.inl ⟨V, by omega, rfl⟩), (by (try dsimp only [keepOnly_eq]); omega), fun i hi => ?_⟩
      exact low1 i (by omega)
    by_cases e1 : (m.length : Int) ≤ i0
    · skip
      (try simp -implicitDefEqProofs (disch := constructor; omega) [lenm, d0, e1])
      refine s20_8 ?_
      refine s20_9 ?_
      simp -implicitDefEqProofs (disch := constructor; omega) [↓h20_10, ↓w20_10_1, ↓h20_10_1g, ↓h20_10_2, lenm, d0, e1]
      refine s20_11 ?_
      simp -implicitDefEqProofs (disch := constructor; omega) [lenm, d0, e1]
      refine s20_12 ?_
      simp -implicitDefEqProofs (disch := constructor; omega) [↓h20_13, lenm, d0, e1]
      refine hQ _ _ _ (.inr rfl) (by simp only [resc, resv, List.mapM_cons, List.mapM_nil, a20]; simp -implicitDefEqProofs (disch := constructor; omega) [lenm, d0, e1]; rfl) ⟨.inr (.inl ⟨V, by omega, rfl⟩), (by (try dsimp only [keepOnly_eq]); omega), fun i hi => ?_⟩
      exact low1 i (by omega)
    have d1 := eq_false e1
    (try simp -implicitDefEqProofs (disch := constructor; omega) [lenm, lenw, d0, d1])
    refine s20_8 ?_
    refine s20_9 ?_
    simp -implicitDefEqProofs (disch := constructor; omega) [↓h20_10, ↓w20_10_1, ↓h20_10_1g, ↓h20_10_2, lenm, lenw, d0, d1]
    refine s20_11 ?_
    simp -implicitDefEqProofs (disch := constructor; omega) [lenm, lenw, d0, d1]
    refine s20_14 ?_
    simp -implicitDefEqProofs (disch := constructor; omega) [↓h20_15, ↓h20_15_1, lenm, lenw, d0, d1]
    refine wF_mono (k28 xm xw xp m w p _ (vm1.keep (by (try dsimp only [keepOnly_eq]); omega) fun _ _ => rfl) (vw1.keep (by (try dsimp only [keepOnly_eq]); omega) fun _ _ => rfl) (vp1.keep (by (try dsimp only [keepOnly_eq]); omega) fun _ _ => rfl) V) ?_
    rintro _ h2 ⟨q0, q1, q2, b, a, kp, rfl, P, hq0, hq1, hq2, hq3, o0, o1, o2, hn2, ho2⟩
    (try dsimp only at hn2 ho2 hq0)
    (try simp -implicitDefEqProofs (disch := constructor; omega) [↓h20_15, ↓h20_15_1, lenm, lenw, d0, d1])
    refine s20_16 ?_
    simp -implicitDefEqProofs (disch := constructor; omega) [↓h20_17, lenm, lenw, d0, d1]
    refine s20_18 ?_
    refine s20_19 ?_
    simp -implicitDefEqProofs (disch := constructor; omega) [↓h20_20, lenm, lenw, d0, d1]
    refine s20_21 ?_
    obtain ⟨qs, hqs⟩ : ∃ q, q = h1.nx + 8 + 4 := ⟨_, rfl⟩
    rw [← hqs]
    obtain ⟨H, hH⟩ : ∃ H, H = upd h2.o qs (some (.cells qs false 58 0 [.slice q0 0 m.length, .slice q1 0 m.length, .slice q2 0 w.length])) := ⟨_, rfl⟩
    rw [← hH]
    have hs : H qs = some (.cells qs false 58 0 [.slice q0 0 m.length, .slice q1 0 m.length, .slice q2 0 w.length]) := by rw [hH]; simp
    have p0 : H q0 = some (.cells q0 false 3 1 (gZ m.length b)) := by rw [hH, updO_ne _ _ _ _ ⟨by omega⟩]; exact o0
    have p1 : H q1 = some (.cells q1 false 3 1 (gZ m.length a)) := by rw [hH, updO_ne _ _ _ _ ⟨by omega⟩]; exact o1
    have p2 : H q2 = some (.cells q2 false 4 1 (gB w.length kp)) := by rw [hH, updO_ne _ _ _ _ ⟨by omega⟩]; exact o2
    have lowH : ∀ i, i < h1.nx → H i = h1.o i := fun i hi => by rw [hH, updO_ne _ _ _ _ ⟨by omega⟩, ho2 i (by omega)]
    have low : ∀ i, i < h.nx → H i = h.o i := fun i hi => (lowH i (by omega)).trans (low1 i hi)
    have hqq : qs < h2.nx ∧ q0 < h2.nx ∧ q1 < h2.nx ∧ q2 < h2.nx ∧ h.nx ≤ h2.nx ∧ h1.nx ≤ h2.nx := by omega
    have vmH := vm1.keep (n' := h2.nx) (o' := H) (by omega) lowH
    have vwH := vw1.keep (n' := h2.nx) (o' := H) (by omega) lowH
    obtain ⟨lo, hlo⟩ : ∃ q, q = h2.nx := ⟨_, rfl⟩
    obtain ⟨r, S, hr⟩ := V.s
    obtain ⟨idx0, hx0, hx1⟩ := List.mem_iff_getElem.1 (S.all hr i0 (by omega) (by omega))
    have lenw := vwH.lenV (fs := fs) (out := out)
    rw [← hlo] at hqq vmH vwH ⊢
    clear hH low1 lowH vm1 vw1 vp1 o0 o1 o2 ho2 ho1 hqs lenm
    refine s20_22 (fun k s => ∃ (i : Int) (idx : Nat) (pre : List Int) (ag : Bool) (y : Cell) (f : Nat), (∃ hi : idx < r.length, r[idx] = i) ∧ pre.length + idx ≤ idx0 ∧ (s.t 0 = .v (.one (xm)) ∧ s.t 1 = .v (.one (xw)) ∧ s.t 3 = .v (.one (.int .i64 (i))) ∧ s.t 10 = .v (.one (.ptr qs 0)) ∧ s.t 11 = .v (.one (y)) ∧ s.t 12 = .v (.one (.bool (ag)))) ∧
      ((ag = true ∧ k = idx + 1 ∧ ∀ l, Ch m w b a kp i l → Ch m w b a kp i0 (pre ++ l)) ∨ (ag = false ∧ k = 0 ∧ Ch m w b a kp i0 pre)) ∧ Own s.h.o lo s.h.nx y 3 1 enI pre f ∧ f < s.h.nx ∧ lo ≤ s.h.nx ∧ ∀ v, v < lo → s.h.o v = H v) (idx0 + 1) ?_ ?_
    · skip
      exact ⟨i0, idx0, [], true, .nils, 0, ⟨hx0, hx1⟩, by simp, (by simp -implicitDefEqProofs (disch := constructor; omega)), .inl ⟨rfl, rfl, fun l hl => hl⟩, Own.nil, (by (try dsimp only [keepOnly_eq]); omega), (by (try dsimp only [keepOnly_eq]); omega), fun v hv => rfl⟩
    · rintro k s Q2 ⟨i, idx, pre, ag, y, f, ⟨hi1, hi2⟩, hpl, tA, hag, O, hfn, hn, ho⟩ hN hE hR
      have fin : ∀ s1 : St, s1.t 11 = .v (.one y) → Ch m w b a kp i0 pre → s1.h.o = s.h.o → s.h.nx ≤ s1.h.nx → Q2 (.exit 0) s1 := by
        intro s1 t11 C e1 e2
        refine hE 0 s1 ?_
        (try simp -implicitDefEqProofs (disch := constructor; omega) [t11])
        refine s20_54 ?_
        simp -implicitDefEqProofs (disch := constructor; omega) [↓h20_55, t11]
        refine hQ _ _ _ (.inr rfl) (by simp only [resc, resv, List.mapM_cons, List.mapM_nil, a20]; simp -implicitDefEqProofs (disch := constructor; omega) [t11]; rfl) ⟨.inr (.inr ⟨y, pre, b, a, kp, V, by omega, rfl, O.view.keep (by (try dsimp only [keepOnly_eq]); omega) fun v hv => congrFun e1 v, P, C⟩), (by (try dsimp only [keepOnly_eq]); omega), fun v hv => ?_⟩
        exact (congrFun e1 v).trans ((ho v (by omega)).trans (low v hv))
      rcases hag with ⟨rfl, hk, hC⟩ | ⟨rfl, hk, hC⟩
      · have hrg := S.rg _ (List.getElem_mem hi1)
        rw [hi2] at hrg
        obtain ⟨u, hu⟩ : ∃ u : Nat, i = u := ⟨i.toNat, by omega⟩
        subst hu
        have hun : u < m.length := by omega
        obtain ⟨jm, fm, rom, em, wm, csm, rfl, hjm, hcm, hlm, hgm1, hgm2, hgm3⟩ := vmH.get enM_len hun
        have gm0 : csm[u * 2]? = some (.int .i64 m[u].t) := hgm3 0 (by omega)
        have gm1 : csm[u * 2 + 1]? = some (.bool m[u].hold) := hgm3 1 (by omega)
        have cm := (ho jm hjm).trans hcm
        have cs := (ho qs (by omega)).trans hs
        have c0 := (ho q0 (by omega)).trans p0
        have gb := gZ_get (f := b) hun
        have hms : momS m u = m[u] := momS_get hun
        have rest : ¬ (m[u].hold = true ∧ b u ≤ m[u].t) → ∀ (t : Nat → T) (nx : Nat) (Q' : AExit → St → Prop), (∀ s2, Q2 .normal s2 → Q' .normal s2) → (t 0 = .v (.one (.slice jm 0 m.length)) ∧ t 1 = .v (.one (xw)) ∧ t 3 = .v (.one (.int .i64 (u))) ∧ t 10 = .v (.one (.ptr qs 0)) ∧ t 11 = .v (.one (y)) ∧ t 12 = .v (.one (.bool (false)))) → s.h.nx ≤ nx → wC fs out c20_34 ⟨t, ⟨s.h.o, nx⟩⟩ Q' := by
          intro hns t nx Q' hq tB hnx
          clear tA
          refine s20_34 ?_
          simp -implicitDefEqProofs (disch := constructor; omega) [↓h20_35, tB, lenw]
          refine s20_36 ?_
          refine s20_37 (fun z s' => ∃ k : Nat, k + z = w.length ∧ (s'.t 0 = .v (.one (.slice jm 0 m.length)) ∧ s'.t 1 = .v (.one (xw)) ∧ s'.t 3 = .v (.one (.int .i64 (u))) ∧ s'.t 10 = .v (.one (.ptr qs 0)) ∧ s'.t 11 = .v (.one (y)) ∧ s'.t 12 = .v (.one (.bool (false))) ∧ s'.t 51 = .v (.one (xw)) ∧ s'.t 52 = .v (.one (.int .i64 (w.length))) ∧ s'.t 53 = .v (.one (.int .i64 (k)))) ∧ (∀ k', k' < k → ¬ okC m w b a kp u k') ∧ s.h.nx ≤ s'.h.nx ∧ ∀ v, v < s.h.nx → s'.h.o v = s.h.o v) w.length ?_ ?_
          · exact ⟨0, by omega, (by simp -implicitDefEqProofs (disch := constructor; omega) [tB, lenw]), fun k' h => by omega, (by (try dsimp only [keepOnly_eq]); omega), fun v hv => rfl⟩
          · clear tB
            rintro z s' Q3 ⟨k2, hz, tC, hno, hn', ho'⟩ hN' hE' hR'
            have hoH : ∀ v, v < lo → s'.h.o v = H v := fun v hv => (ho' v (by omega)).trans (ho v hv)
            refine s20_38 ?_
            simp -implicitDefEqProofs (disch := constructor; omega) [↓h20_39, tC]
            refine s20_40 ?_
            simp -implicitDefEqProofs (disch := constructor; omega) [tC]
            split
            · rename_i hk2
              obtain ⟨jw, fw, row, ew, ww, csw, rfl, hjw, hcw, hlw, hgw1, hgw2, hgw3⟩ := vwH.get enW_len hk2
              have cw := (hoH jw hjw).trans hcw
              obtain ⟨x, hxe⟩ : ∃ x, x = w[k2] := ⟨_, rfl⟩
              rw [← hxe] at hgw1 hgw2 hgw3
              have hmem : x ∈ w := by rw [hxe]; exact List.getElem_mem hk2
              obtain ⟨⟨xf0, xfn, xt0, xtn⟩, xft, xmn, xms⟩ := V.ww x hmem
              have xmn' := within_iff.1 xmn
              obtain ⟨uf, huf⟩ : ∃ n : Nat, x.f = n := ⟨x.f.toNat, by omega⟩
              have hufn : uf < m.length := by omega
              have bdf := P.bd uf
              have w2 := wrap64 (show -9223372036854775808 ≤ (k2 : Int) + 1 by omega) (by omega)
              have w3 := wrap64 (show -9223372036854775808 ≤ a uf + x.mn by omega) (by omega)
              have ga := gZ_get (f := a) hufn
              have gk := gB_get (f := kp) hk2
              have cs := (hoH qs (by omega)).trans hs
              have c0 := (hoH q0 (by omega)).trans p0
              have c1 := (hoH q1 (by omega)).trans p1
              have c2 := (hoH q2 (by omega)).trans p2
              by_cases hxt : x.t = u
              · cases hkp : kp k2 with
                | true =>
                  by_cases hxb : a uf + x.mn = b u
                  · have hok : okC m w b a kp u k2 := ⟨hk2, by rw [← hxe]; exact hxt, hkp, by rw [← hxe, huf]; exact hxb, by rw [hms]; exact hns⟩
                    rw [hxb] at w3
                    refine s20_42 ?_
                    refine s20_43 ?_
                    refine s20_44 ?_
                    simp -implicitDefEqProofs (disch := constructor; omega) [↓h20_45, tC, hk2, cw, hlw, hgw2, enW, w2, hxt, huf, hufn, w3, ga, gk, gb, c0, c1, c2, cs, gZ_len, gB_len, hkp, hxb, hun]
                    refine s20_46 ?_
                    simp -implicitDefEqProofs (disch := constructor; omega) [↓h20_47, ↓w20_47_1, ↓h20_47_1g, ↓h20_47_2, ↓w20_47_3, ↓h20_47_3g, ↓h20_47_3g_1, ↓h20_47_4, tC, hk2, cw, hlw, hgw2, enW, w2, hxt, huf, hufn, w3, ga, gk, gb, c0, c1, c2, cs, gZ_len, gB_len, hkp, hxb, hun]
                    refine s20_48 ?_
                    simp -implicitDefEqProofs (disch := constructor; omega) [tC, hk2, cw, hlw, hgw2, enW, w2, hxt, huf, hufn, w3, ga, gk, gb, c0, c1, c2, cs, gZ_len, gB_len, hkp, hxb, hun]
                    refine s20_49 ?_
                    simp -implicitDefEqProofs (disch := constructor; omega) [↓h20_50, ↓h20_50_1, tC, hk2, cw, hlw, hgw2, enW, w2, hxt, huf, hufn, w3, ga, gk, gb, c0, c1, c2, cs, gZ_len, gB_len, hkp, hxb, hun]
                    refine app_own (f := f) (lo := lo) (n := s.h.nx) (x := y) (l := pre) (l2 := [(k2 : Int)]) (enc := enI) ?_ ?_ ?_ (src_one (f := s'.h.nx + 1 + 6 + 28 + 2) (ro := false) (e := 3) (s := 1) (w := 1) ?_ rfl) enI_len enI_solid (show 0 < 1 by omega) ⟨?_, ?_⟩ ?_
                    · (try dsimp only)
                      omega
                    · (try dsimp only)
                      omega
                    · exact O.keep' (Nat.le_refl _) fun v hv => by simp -implicitDefEqProofs (disch := constructor; omega) [tC, hk2, cw, hlw, hgw2, enW, w2, hxt, huf, hufn, w3, ga, gk, gb, c0, c1, c2, cs, gZ_len, gB_len, hkp, hxb, hun]; exact ho' v hv
                    · (try simp -implicitDefEqProofs (disch := constructor; omega) [tC, hk2, cw, hlw, hgw2, enW, w2, hxt, huf, hufn, w3, ga, gk, gb, c0, c1, c2, cs, gZ_len, gB_len, hkp, hxb, hun, enI])
                    · simp; omega
                    · simp; omega
                    rintro x' f' o' O' hf' hoA
                    (try dsimp only at hoA O' hf')
                    have hbox : o' (s'.h.nx + 1 + 3) = some (.cells (s'.h.nx + 1 + 3) false 35 0 [.int .i64 uf, .int .i64 u, .int .i64 x.mn, .int .i64 x.ms]) := by
                      rw [hoA _ (by omega) (.inr (by rw [updO_ne _ _ _ _ ⟨by omega⟩, updO_same]; exact (by omega : s'.h.nx + 1 + 3 ≠ f)))]
                      (try simp -implicitDefEqProofs (disch := constructor; omega) [tC, hk2, cw, hlw, hgw2, enW, w2, hxt, huf, hufn, w3, ga, gk, gb, c0, c1, c2, cs, gZ_len, gB_len, hkp, hxb, hun])
                    have hoA' : ∀ v, v < lo → o' v = H v := fun v hv => by
                      rw [hoA v (by omega) (.inl hv)]; simp -implicitDefEqProofs (disch := constructor; omega) [tC, hk2, cw, hlw, hgw2, enW, w2, hxt, huf, hufn, w3, ga, gk, gb, c0, c1, c2, cs, gZ_len, gB_len, hkp, hxb, hun]; exact hoH v hv
                    (try simp -implicitDefEqProofs (disch := constructor; omega) [↓h20_50, ↓h20_50_1, tC, hbox])
                    refine s20_51 ?_
                    simp -implicitDefEqProofs (disch := constructor; omega) [↓h20_52, tC, hbox]
                    refine hE' 2 _ ?_
                    (try simp -implicitDefEqProofs (disch := constructor; omega) [tC, hbox])
                    refine hq _ ?_
                    have hxm := S.tp idx hi1 x hmem (by rw [hi2]; exact hxt)
                    obtain ⟨idx', hx1', hx2'⟩ := List.mem_iff_getElem.1 hxm
                    simp only [List.length_take] at hx1'
                    rw [List.getElem_take, huf] at hx2'
                    refine hN (idx' + 1) _ (by omega) ?_
                    dsimp only [keepOnly_eq]
                    refine ⟨uf, idx', pre ++ [(k2 : Int)], true, x', f', ⟨by omega, hx2'⟩, by simp; omega, (by simp -implicitDefEqProofs (disch := constructor; omega) [tC, hbox]), .inl ⟨rfl, rfl, fun l hl => ?_⟩, O'.keep' (by (try dsimp only [keepOnly_eq]); omega) fun _ _ => rfl, (by (try dsimp only [keepOnly_eq]); omega), (by (try dsimp only [keepOnly_eq]); omega), hoA'⟩
                    rw [List.append_assoc]
                    refine hC _ (.cons hk2 hok hno ?_)
                    rw [← hxe, huf]; exact hl
                  · have hxb' := eq_false hxb
                    refine s20_42 ?_
                    refine s20_43 ?_
                    refine s20_44 ?_
                    simp -implicitDefEqProofs (disch := constructor; omega) [↓h20_45, tC, hk2, cw, hlw, hgw2, enW, w2, hxt, huf, hufn, w3, ga, gk, gb, c0, c1, c2, cs, gZ_len, gB_len, hkp, hxb', hun]
                    refine s20_46 ?_
                    simp -implicitDefEqProofs (disch := constructor; omega) [↓h20_47, ↓w20_47_1, ↓h20_47_1g, ↓h20_47_2, ↓w20_47_3, ↓h20_47_3g, ↓h20_47_3g_1, ↓h20_47_4, tC, hk2, cw, hlw, hgw2, enW, w2, hxt, huf, hufn, w3, ga, gk, gb, c0, c1, c2, cs, gZ_len, gB_len, hkp, hxb', hun]
                    refine s20_48 ?_
                    simp -implicitDefEqProofs (disch := constructor; omega) [tC, hk2, cw, hlw, hgw2, enW, w2, hxt, huf, hufn, w3, ga, gk, gb, c0, c1, c2, cs, gZ_len, gB_len, hkp, hxb', hun]
                    refine s20_53 ?_
                    simp -implicitDefEqProofs (disch := constructor; omega) [↓h20_53, tC, hk2, cw, hlw, hgw2, enW, w2, hxt, huf, hufn, w3, ga, gk, gb, c0, c1, c2, cs, gZ_len, gB_len, hkp, hxb', hun]
                    refine hN' (z - 1) _ (by omega) ?_
                    dsimp only [keepOnly_eq]
                    refine ⟨k2 + 1, by omega, (by simp -implicitDefEqProofs (disch := constructor; omega) [tC, hk2, cw, hlw, hgw2, enW, w2, hxt, huf, hufn, w3, ga, gk, gb, c0, c1, c2, cs, gZ_len, gB_len, hkp, hxb', hun]), fun k' hk' hc => ?_, (by (try dsimp only [keepOnly_eq]); omega), fun v hv => by simp -implicitDefEqProofs (disch := constructor; omega) [tC, hk2, cw, hlw, hgw2, enW, w2, hxt, huf, hufn, w3, ga, gk, gb, c0, c1, c2, cs, gZ_len, gB_len, hkp, hxb', hun]; exact ho' v hv⟩
                    by_cases e : k' = k2
                    · subst e
                      obtain ⟨_, h1, h2, h3, _⟩ := hc
                      rw [← hxe] at h1 h3
                      rw [huf] at h3
                      first | exact hxt h1 | exact hxb h3 | (rw [h2] at hkp; cases hkp)
                    · exact hno k' (by omega) hc
                | false =>
                  refine s20_42 ?_
                  refine s20_43 ?_
                  refine s20_44 ?_
                  simp -implicitDefEqProofs (disch := constructor; omega) [↓h20_45, tC, hk2, cw, hlw, hgw2, enW, w2, hxt, huf, hufn, w3, ga, gk, gb, c0, c1, c2, cs, gZ_len, gB_len, hkp, hun]
                  refine s20_46 ?_
                  simp -implicitDefEqProofs (disch := constructor; omega) [↓h20_47, ↓w20_47_1, ↓h20_47_1g, ↓h20_47_2, ↓w20_47_3, ↓h20_47_3g, ↓h20_47_3g_1, ↓h20_47_4, tC, hk2, cw, hlw, hgw2, enW, w2, hxt, huf, hufn, w3, ga, gk, gb, c0, c1, c2, cs, gZ_len, gB_len, hkp, hun]
                  refine s20_48 ?_
                  simp -implicitDefEqProofs (disch := constructor; omega) [tC, hk2, cw, hlw, hgw2, enW, w2, hxt, huf, hufn, w3, ga, gk, gb, c0, c1, c2, cs, gZ_len, gB_len, hkp, hun]
                  refine s20_53 ?_
                  simp -implicitDefEqProofs (disch := constructor; omega) [↓h20_53, tC, hk2, cw, hlw, hgw2, enW, w2, hxt, huf, hufn, w3, ga, gk, gb, c0, c1, c2, cs, gZ_len, gB_len, hkp, hun]
                  refine hN' (z - 1) _ (by omega) ?_
                  dsimp only [keepOnly_eq]
                  refine ⟨k2 + 1, by omega, (by simp -implicitDefEqProofs (disch := constructor; omega) [tC, hk2, cw, hlw, hgw2, enW, w2, hxt, huf, hufn, w3, ga, gk, gb, c0, c1, c2, cs, gZ_len, gB_len, hkp, hun]), fun k' hk' hc => ?_, (by (try dsimp only [keepOnly_eq]); omega), fun v hv => by simp -implicitDefEqProofs (disch := constructor; omega) [tC, hk2, cw, hlw, hgw2, enW, w2, hxt, huf, hufn, w3, ga, gk, gb, c0, c1, c2, cs, gZ_len, gB_len, hkp, hun]; exact ho' v hv⟩
                  by_cases e : k' = k2
                  · subst e
                    obtain ⟨_, h1, h2, h3, _⟩ := hc
                    rw [← hxe] at h1 h3
                    rw [huf] at h3
                    first | exact hxt h1 | exact hxb h3 | (rw [h2] at hkp; cases hkp)
                  · exact hno k' (by omega) hc
              · have hxt' := eq_false hxt
                refine s20_42 ?_
                refine s20_43 ?_
                refine s20_44 ?_
                simp -implicitDefEqProofs (disch := constructor; omega) [↓h20_45, tC, hk2, cw, hlw, hgw2, enW, w2, hxt', huf, hufn, cs, gZ_len, gB_len]
                refine s20_46 ?_
                simp -implicitDefEqProofs (disch := constructor; omega) [↓h20_47, ↓w20_47_1, ↓h20_47_1g, ↓h20_47_2, ↓w20_47_3, ↓h20_47_3g, ↓h20_47_3g_1, ↓h20_47_4, tC, hk2, cw, hlw, hgw2, enW, w2, hxt', huf, hufn, cs, gZ_len, gB_len]
                refine s20_48 ?_
                simp -implicitDefEqProofs (disch := constructor; omega) [tC, hk2, cw, hlw, hgw2, enW, w2, hxt', huf, hufn, cs, gZ_len, gB_len]
                refine s20_53 ?_
                simp -implicitDefEqProofs (disch := constructor; omega) [↓h20_53, tC, hk2, cw, hlw, hgw2, enW, w2, hxt', huf, hufn, cs, gZ_len, gB_len]
                refine hN' (z - 1) _ (by omega) ?_
                dsimp only [keepOnly_eq]
                refine ⟨k2 + 1, by omega, (by simp -implicitDefEqProofs (disch := constructor; omega) [tC, hk2, cw, hlw, hgw2, enW, w2, hxt', huf, hufn, cs, gZ_len, gB_len]), fun k' hk' hc => ?_, (by (try dsimp only [keepOnly_eq]); omega), fun v hv => by simp -implicitDefEqProofs (disch := constructor; omega) [tC, hk2, cw, hlw, hgw2, enW, w2, hxt', huf, hufn, cs, gZ_len, gB_len]; exact ho' v hv⟩
                by_cases e : k' = k2
                · subst e
                  obtain ⟨_, h1, h2, h3, _⟩ := hc
                  rw [← hxe] at h1 h3
                  rw [huf] at h3
                  first | exact hxt h1 | exact hxb h3 | (rw [h2] at hkp; cases hkp)
                · exact hno k' (by omega) hc
            · rename_i hk2
              refine hE' 2 _ ?_
              (try simp -implicitDefEqProofs (disch := constructor; omega) [tC])
              refine hq _ ?_
              refine hN 0 _ (by omega) ?_
              dsimp only [keepOnly_eq]
              refine ⟨u, idx, pre, false, y, f, ⟨hi1, hi2⟩, hpl, (by simp -implicitDefEqProofs (disch := constructor; omega) [tC]), .inr ⟨rfl, rfl, ?_⟩, O.keep' (by (try dsimp only [keepOnly_eq]); omega) fun v hv => ho' v hv, (by (try dsimp only [keepOnly_eq]); omega), (by (try dsimp only [keepOnly_eq]); omega), hoH⟩
              have := hC [] (.nil fun k ⟨h1, h2⟩ => hno k (by omega) ⟨h1, h2⟩)
              rwa [List.append_nil] at this
        cases hh : m[u].hold with
        | true =>
          by_cases hle : b u ≤ m[u].t
          · skip
            refine s20_23 ?_
            refine s20_24 ?_
            simp -implicitDefEqProofs (disch := constructor; omega) [↓h20_25, lenw, tA, cm, hlm, gm0, gm1, hun, cs, c0, gb, gZ_len, hh, hle]
            refine s20_26 ?_
            simp -implicitDefEqProofs (disch := constructor; omega) [lenw, tA, cm, hlm, gm0, gm1, hun, cs, c0, gb, gZ_len, hh, hle]
            refine s20_27 ?_
            refine s20_28 ?_
            simp -implicitDefEqProofs (disch := constructor; omega) [↓h20_29, lenw, tA, cm, hlm, gm0, gm1, hun, cs, c0, gb, gZ_len, hh, hle]
            refine s20_30 ?_
            refine s20_31 ?_
            simp -implicitDefEqProofs (disch := constructor; omega) [↓h20_32, ↓w20_32_1, ↓h20_32_1g, ↓h20_32_1g_1, ↓h20_32_2, lenw, tA, cm, hlm, gm0, gm1, hun, cs, c0, gb, gZ_len, hh, hle]
            refine s20_33 ?_
            simp -implicitDefEqProofs (disch := constructor; omega) [lenw, tA, cm, hlm, gm0, gm1, hun, cs, c0, gb, gZ_len, hh, hle]
            refine fin _ (by simp -implicitDefEqProofs (disch := constructor; omega) [lenw, tA, cm, hlm, gm0, gm1, hun, cs, c0, gb, gZ_len, hh, hle]) ?_ rfl (by (try dsimp only [keepOnly_eq]); omega)
            have := hC [] (.nil fun k ⟨_, _, _, _, h5⟩ => h5 (by rw [hms]; exact ⟨hh, hle⟩))
            rwa [List.append_nil] at this
          · have hle' := eq_false hle
            refine s20_23 ?_
            refine s20_24 ?_
            simp -implicitDefEqProofs (disch := constructor; omega) [↓h20_25, lenw, tA, cm, hlm, gm0, gm1, hun, cs, c0, gb, gZ_len, hh, hle']
            refine s20_26 ?_
            simp -implicitDefEqProofs (disch := constructor; omega) [lenw, tA, cm, hlm, gm0, gm1, hun, cs, c0, gb, gZ_len, hh, hle']
            refine s20_27 ?_
            refine s20_28 ?_
            simp -implicitDefEqProofs (disch := constructor; omega) [↓h20_29, lenw, tA, cm, hlm, gm0, gm1, hun, cs, c0, gb, gZ_len, hh, hle']
            refine s20_30 ?_
            refine s20_31 ?_
            simp -implicitDefEqProofs (disch := constructor; omega) [↓h20_32, ↓w20_32_1, ↓h20_32_1g, ↓h20_32_1g_1, ↓h20_32_2, lenw, tA, cm, hlm, gm0, gm1, hun, cs, c0, gb, gZ_len, hh, hle']
            refine s20_33 ?_
            simp -implicitDefEqProofs (disch := constructor; omega) [lenw, tA, cm, hlm, gm0, gm1, hun, cs, c0, gb, gZ_len, hh, hle']
            exact rest (fun h => hle h.2) _ _ _ (fun s2 h => by simp -implicitDefEqProofs (disch := constructor; omega) [lenw, tA, cm, hlm, gm0, gm1, hun, cs, c0, gb, gZ_len, hh, hle']; exact h) (by simp -implicitDefEqProofs (disch := constructor; omega) [lenw, tA, cm, hlm, gm0, gm1, hun, cs, c0, gb, gZ_len, hh, hle']) (by (try dsimp only [keepOnly_eq]); omega)
        | false =>
          refine s20_23 ?_
          refine s20_24 ?_
          simp -implicitDefEqProofs (disch := constructor; omega) [↓h20_25, lenw, tA, cm, hlm, gm0, gm1, hun, cs, c0, gb, gZ_len, hh]
          refine s20_26 ?_
          simp -implicitDefEqProofs (disch := constructor; omega) [lenw, tA, cm, hlm, gm0, gm1, hun, cs, c0, gb, gZ_len, hh]
          refine s20_27 ?_
          refine s20_28 ?_
          simp -implicitDefEqProofs (disch := constructor; omega) [↓h20_29, lenw, tA, cm, hlm, gm0, gm1, hun, cs, c0, gb, gZ_len, hh]
          refine s20_30 ?_
          refine s20_31 ?_
          simp -implicitDefEqProofs (disch := constructor; omega) [↓h20_32, ↓w20_32_1, ↓h20_32_1g, ↓h20_32_1g_1, ↓h20_32_2, lenw, tA, cm, hlm, gm0, gm1, hun, cs, c0, gb, gZ_len, hh]
          refine s20_33 ?_
          simp -implicitDefEqProofs (disch := constructor; omega) [lenw, tA, cm, hlm, gm0, gm1, hun, cs, c0, gb, gZ_len, hh]
          exact rest (fun h => by rw [hh] at h; cases h.1) _ _ _ (fun s2 h => by simp -implicitDefEqProofs (disch := constructor; omega) [lenw, tA, cm, hlm, gm0, gm1, hun, cs, c0, gb, gZ_len, hh]; exact h) (by simp -implicitDefEqProofs (disch := constructor; omega) [lenw, tA, cm, hlm, gm0, gm1, hun, cs, c0, gb, gZ_len, hh]) (by (try dsimp only [keepOnly_eq]); omega)
      · skip
        refine s20_23 ?_
        refine s20_24 ?_
        simp -implicitDefEqProofs (disch := constructor; omega) [↓h20_25, tA]
        refine s20_26 ?_
        simp -implicitDefEqProofs (disch := constructor; omega) [tA]
        exact fin _ (by simp -implicitDefEqProofs (disch := constructor; omega) [tA]) hC rfl (by (try dsimp only [keepOnly_eq]); omega)
end Go.Proofs.Ythoicdnlcnppgaa.Fn
