/- Contracts: the reference's propagation. Conditions: none. -/
import Derived.Test.YthoicdnlcnppgaaD13
set_option linter.unusedVariables false
set_option linter.unusedSimpArgs false
namespace Go.Proofs.Ythoicdnlcnppgaa.Fn
open Go Go.Am
set_option maxRecDepth 100000
set_option maxHeartbeats 1000000
def foldR (m : List Mom) (a : Int → Int) (i : Int) (w : List Wt) : Int × Bool := w.foldl (stB m a i) (0, false)
theorem foldR_spec (m : List Mom) (a : Int → Int) (i : Int) (w : List Wt) : FB0 ⟨0, false⟩ m a i w (foldR m a i w) := by
  have := FB.all (M := ⟨0, false⟩) (m := m) (a := a) (i := i) w [] (0, false) ⟨by simp, fun h => absurd h (by simp), by simp, .inl ⟨rfl, .inr (by simp)⟩⟩
  exact this
theorem foldR_step {m : List Mom} {a : Int → Int} {i : Int} {w : List Wt} {k : Nat} (hk : k < w.length) : foldR m a i (w.take (k + 1)) = stB m a i (foldR m a i (w.take k)) w[k] := by
  unfold foldR
  rw [List.take_succ_eq_append_getElem hk, List.foldl_append]; rfl
/-- The reference's base is the base. -/
theorem foldR_base {m : List Mom} {a : Int → Int} {i : Int} {w : List Wt} (hm : 0 ≤ (momS m i).t) (hr : ∀ x ∈ w, 0 ≤ a x.f + x.mn) :
    (if (momS m i).hold = true ∨ (foldR m a i w).2 = false then (if (momS m i).t > (foldR m a i w).1 then (momS m i).t else (foldR m a i w).1) else (foldR m a i w).1) = (foldB m a i w).1 := by
  have R := foldR_spec m a i w
  have B := foldB_spec m a i w
  obtain ⟨r1, r2, r3, r4⟩ := R
  obtain ⟨b1, b2, b3, b4⟩ := B
  rcases r4 with ⟨e, h | h⟩ | ⟨x, hx, hk, e⟩
  · cases h
  · have h2 : (foldR m a i w).2 = false := by
      cases h2 : (foldR m a i w).2 with
      | false => rfl
      | true =>
        rcases r1.1 h2 with h3 | ⟨y, hy, hyk⟩
        · cases h3
        · exact absurd hyk (h y hy)
    rw [if_pos (.inr h2)]
    rcases b4 with ⟨e', _⟩ | ⟨y, hy, hyk, _⟩
    · (try dsimp only at e); split <;> omega
    · exact absurd hyk (h y hy)
  · have h2 : (foldR m a i w).2 = true := r1.2 (.inr ⟨x, hx, hk⟩)
    have h3 := b3 x hx hk
    have h4 := hr x hx
    have h5 : (foldB m a i w).1 ≤ (foldR m a i w).1 ∨ (foldB m a i w).1 = (momS m i).t ∧ (momS m i).hold = true := by
      rcases b4 with ⟨e', h | h⟩ | ⟨y, hy, hyk, e'⟩
      · exact .inr ⟨e', h⟩
      · exact absurd hk (h x hx)
      · have := r3 y hy hyk; exact .inl (by omega)
    by_cases hh : (momS m i).hold = true
    · rw [if_pos (.inl hh)]
      have := b2 hh
      rcases h5 with h5 | h5 <;> split <;> omega
    · rw [if_neg (by simp [hh, h2])]
      rcases h5 with h5 | h5
      · omega
      · exact absurd h5.2 hh
theorem primS_eq {i : Int} : ∀ (p : List Pr), (p.map Pr.m).Nodup → primS p i = priS p i
  | [], _ => rfl
  | x :: p, hd => by
    have h1 := List.nodup_cons.1 hd
    have ih := primS_eq (i := i) p h1.2
    unfold primS
    by_cases e : x.m = i
    · rw [if_pos e]
      have : p.filter (fun x => decide (x.m = i)) = [] := by
        rw [List.filter_eq_nil_iff]
        intro y hy
        simp only [decide_eq_true_eq]
        exact fun hyi => h1.1 (by rw [e, ← hyi]; exact List.mem_map_of_mem hy)
      simp [priS, e, this]
    · rw [if_neg e, ih]
      simp [priS, e]
theorem k16 (xm xw xp : Cell) (m : List Mom) (w : List Wt) (p : List Pr) (h : AH) (vm : View h.o h.nx xm enM m) (vw : View h.o h.nx xw enW w) (vp : View h.o h.nx xp enPr p)
    (hm : m.length < 9223372036854775807) (hw : w.length < 9223372036854775807) (hp : p.length < 9223372036854775807) :
    wF fs out 16 [.v (.one xm), .v (.one xw), .v (.one xp)] h fun r h' => PropR m w p r h' ∧ h.le h' := by
  refine wF_fn fs16 rfl fun Q hQ => ?_
  refine s16_0 ?_
  simp -implicitDefEqProofs (disch := constructor; omega) [↓h16_1]
  refine s16_2 ?_
  refine s16_3 ?_
  simp -implicitDefEqProofs (disch := constructor; omega) [↓h16_4, ↓h16_4_1]
  refine wF_mono (k23 xm xw xp m w p _ (vm.keep (by (try dsimp only [keepOnly_eq]); omega) fun i hi => by simp -implicitDefEqProofs (disch := constructor; omega)) (vw.keep (by (try dsimp only [keepOnly_eq]); omega) fun i hi => by simp -implicitDefEqProofs (disch := constructor; omega)) (vp.keep (by (try dsimp only [keepOnly_eq]); omega) fun i hi => by simp -implicitDefEqProofs (disch := constructor; omega)) hm hw hp) ?_
  rintro _ h1 ⟨b, rfl, hb, hle1⟩
  obtain ⟨hn1, ho1⟩ := hle1
  (try dsimp only at hn1 ho1)
  (try simp -implicitDefEqProofs (disch := constructor; omega) [↓h16_4, ↓h16_4_1])
  refine s16_5 ?_
  simp -implicitDefEqProofs (disch := constructor; omega)
  cases b with
  | false =>
    (try simp -implicitDefEqProofs (disch := constructor; omega))
    refine s16_6 ?_
    simp -implicitDefEqProofs (disch := constructor; omega) [↓h16_7]
    refine hQ _ _ _ (.inr rfl) (by simp only [resc, resv, List.mapM_cons, List.mapM_nil, a16]; simp -implicitDefEqProofs (disch := constructor; omega); rfl) ⟨.inl ⟨by simpa using hb, rfl⟩, (by (try dsimp only [keepOnly_eq]); omega), fun i hi => ?_⟩
    exact ho1 i (by omega)
  | true =>
    have V := hb.1 rfl
    have low1 : ∀ i, i < h.nx → h1.o i = h.o i := fun i hi => ho1 i (by omega)
    have vm1 := vm.keep (n' := h1.nx) (by omega) low1
    have vw1 := vw.keep (n' := h1.nx) (by omega) low1
    have vp1 := vp.keep (n' := h1.nx) (by omega) low1
    have lenm := vm1.lenV (fs := fs) (out := out)
    have lenw := vw1.lenV (fs := fs) (out := out)
    have lenp := vp1.lenV (fs := fs) (out := out)
    have hml := V.ml
    have hwl := V.wl
    have hpl := V.pl
    have hb1 : (m.length : Int) * 8 ≤ 140737488355328 := by omega
    have hb2 : (m.length : Int) ≤ 9223372036854775807 := by omega
    have hb3 : (w.length : Int) ≤ 140737488355328 := by omega
    have hb4 : (w.length : Int) ≤ 9223372036854775807 := by omega
    have hb5 : m.length * 8 ≤ 140737488355328 := by omega
    have hb6 : m.length ≤ 9223372036854775807 := by omega
    have hb7 : w.length ≤ 140737488355328 := by omega
    have hb8 : w.length ≤ 9223372036854775807 := by omega
    (try simp -implicitDefEqProofs (disch := constructor; omega) [lenm, lenw, lenp, hb1, hb2, hb3, hb4, hb5, hb6, hb7, hb8, gZ_zero, gB_zero])
    refine s16_8 ?_
    simp -implicitDefEqProofs (disch := constructor; omega) [↓h16_9, lenm, lenw, lenp, hb1, hb2, hb3, hb4, hb5, hb6, hb7, hb8, gZ_zero, gB_zero]
    refine s16_10 ?_
    simp -implicitDefEqProofs (disch := constructor; omega) [↓h16_11, lenm, lenw, lenp, hb1, hb2, hb3, hb4, hb5, hb6, hb7, hb8, gZ_zero, gB_zero]
    refine s16_12 ?_
    simp -implicitDefEqProofs (disch := constructor; omega) [↓h16_13, ↓h16_13_1, lenm, lenw, lenp, hb1, hb2, hb3, hb4, hb5, hb6, hb7, hb8, gZ_zero, gB_zero]
    refine wF_mono (k29 m.length xw w _ (vw1.keep (by (try dsimp only [keepOnly_eq]); omega) fun i hi => by simp -implicitDefEqProofs (disch := constructor; omega) [lenm, lenw, lenp, hb1, hb2, hb3, hb4, hb5, hb6, hb7, hb8, gZ_zero, gB_zero]) hw (by omega) (fun x hx => (V.ww x hx).1)) ?_
    rintro _ h2 ⟨y, b2, r, rfl, S, hb2, hO, hn2, ho2⟩
    (try dsimp only at hn2 ho2 hO)
    have hr : r.length = m.length := by
      obtain ⟨r', hS, hr'⟩ := V.s
      rw [S.len_eq hS, hr']
    obtain ⟨f, O⟩ := hO (hb2.2 hr)
    clear hO hb2
    obtain ⟨lo, hlo⟩ : ∃ q, q = h1.nx + 4 + 4 + 9 := ⟨_, rfl⟩
    obtain ⟨q0, hq0⟩ : ∃ q, q = h1.nx + 2 := ⟨_, rfl⟩
    obtain ⟨q1, hq1⟩ : ∃ q, q = h1.nx + 4 + 2 := ⟨_, rfl⟩
    have o0 : h2.o q0 = some (.cells q0 false 3 1 (gZ m.length fun _ => 0)) := by rw [ho2 _ (by omega), hq0]; simp -implicitDefEqProofs (disch := constructor; omega) [lenm, lenw, lenp, hb1, hb2, hb3, hb4, hb5, hb6, hb7, hb8, gZ_zero, gB_zero]
    have o1 : h2.o q1 = some (.cells q1 false 4 1 (gB w.length fun _ => false)) := by rw [ho2 _ (by omega), hq1]; simp -implicitDefEqProofs (disch := constructor; omega) [lenm, lenw, lenp, hb1, hb2, hb3, hb4, hb5, hb6, hb7, hb8, gZ_zero, gB_zero]
    have low2 : ∀ i, i < h.nx → h2.o i = h.o i := fun i hi => by rw [ho2 _ (by omega)]; simp -implicitDefEqProofs (disch := constructor; omega) [lenm, lenw, lenp, hb1, hb2, hb3, hb4, hb5, hb6, hb7, hb8, gZ_zero, gB_zero]; exact low1 i hi
    rw [← hlo] at O hn2 ho2
    have leny := O.view.lenV (fs := fs) (out := out)
    have hq01 : h.nx ≤ q0 ∧ q0 < q1 ∧ q1 < lo := by omega
    clear vm1 vw1 vp1 low1 ho1 ho2
    (try simp -implicitDefEqProofs (disch := constructor; omega) [↓h16_13, ↓h16_13_1, lenm, lenw, lenp, leny])
    refine s16_14 ?_
    refine s16_15 ?_
    simp -implicitDefEqProofs (disch := constructor; omega) [↓h16_16, lenm, lenw, lenp, leny]
    refine s16_17 ?_
    refine s16_18 (fun k s => ∃ (i : Nat) (b a : Int → Int) (kp : Int → Bool), i + k = r.length ∧ s.t 0 = .v (.one (xm)) ∧ s.t 1 = .v (.one (xw)) ∧ s.t 2 = .v (.one (xp)) ∧ s.t 9 = .v (.one (.slice q0 0 m.length)) ∧ s.t 10 = .v (.one (.slice q1 0 w.length)) ∧ s.t 38 = .v (.one (y)) ∧ s.t 39 = .v (.one (.int .i64 (r.length))) ∧ s.t 40 = .v (.one (.int .i64 (i))) ∧ PrI m w p r i b a kp ∧ s.h.o q0 = some (.cells q0 false 3 1 (gZ m.length a)) ∧ s.h.o q1 = some (.cells q1 false 4 1 (gB w.length kp)) ∧ Own s.h.o lo s.h.nx y 3 1 enI r f ∧ lo ≤ s.h.nx ∧ ∀ v, v < h.nx → s.h.o v = h.o v) r.length ?_ ?_
    · skip
      exact ⟨0, fun _ => 0, fun _ => 0, fun _ => false, by omega, by simp -implicitDefEqProofs (disch := constructor; omega) [lenm, lenw, lenp, leny, hq0, hq1], by simp -implicitDefEqProofs (disch := constructor; omega) [lenm, lenw, lenp, leny, hq0, hq1], by simp -implicitDefEqProofs (disch := constructor; omega) [lenm, lenw, lenp, leny, hq0, hq1], by simp -implicitDefEqProofs (disch := constructor; omega) [lenm, lenw, lenp, leny, hq0, hq1], by simp -implicitDefEqProofs (disch := constructor; omega) [lenm, lenw, lenp, leny, hq0, hq1], by simp -implicitDefEqProofs (disch := constructor; omega) [lenm, lenw, lenp, leny, hq0, hq1], by simp -implicitDefEqProofs (disch := constructor; omega) [lenm, lenw, lenp, leny, hq0, hq1], by simp -implicitDefEqProofs (disch := constructor; omega) [lenm, lenw, lenp, leny, hq0, hq1], PrI.start, o0, o1, O.keep' (by (try dsimp only [keepOnly_eq]); omega) fun _ _ => rfl, (by (try dsimp only [keepOnly_eq]); omega), low2⟩
    · clear o0 o1 O low2 hn2 leny hq0 hq1 hlo
      rintro k' s Q2 ⟨i, b, a, kp, hk', t0, t1, t2, t9, t10, t38, t39, t40, P, o0, o1, O, hn, ho⟩ hN hE hR
      refine s16_19 ?_
      simp -implicitDefEqProofs (disch := constructor; omega) [↓h16_20, lenm, lenw, lenp, t0, t1, t2, t9, t10, t38, t39, t40]
      refine s16_21 ?_
      simp -implicitDefEqProofs (disch := constructor; omega) [lenm, lenw, lenp, t0, t1, t2, t9, t10, t38, t39, t40]
      split
      · rename_i hi
        obtain ⟨jy, fy, roy, ey, wy, csy, rfl, hjy, hcy, hly, hgy⟩ := O.view.get1 (g := (Cell.int .i64 ·)) (fun _ => rfl) (i := i) hi
        have hrg := S.rg _ (List.getElem_mem hi)
        obtain ⟨u, hu⟩ : ∃ u : Nat, r[i] = u := ⟨r[i].toNat, by omega⟩
        have hun : u < m.length := by omega
        rw [hu] at hgy
        obtain ⟨jm, fm, rom, em, wm, csm, rfl, hjm, hcm, hlm, hgm1, hgm2, hgm3⟩ := vm.get enM_len hun
        have gm0 : csm[u * 2]? = some (.int .i64 m[u].t) := hgm3 0 (by omega)
        have gm1 : csm[u * 2 + 1]? = some (.bool m[u].hold) := hgm3 1 (by omega)
        have hms : momS m u = m[u] := momS_get hun
        have w1 := wrap64 (show -9223372036854775808 ≤ (i : Int) + 1 by omega) (by omega)
        have hfl : lo ≤ f := by
          rcases O with h | ⟨_, _, _, h, _⟩
          · cases h.1
          · exact h
        refine s16_23 ?_
        refine s16_24 ?_
        refine s16_25 ?_
        simp -implicitDefEqProofs (disch := constructor; omega) [↓h16_26, lenw, lenp, t0, t1, t2, t9, t10, t38, t39, t40, hi, hgy, hcy, hly, hun, w1]
        refine s16_27 ?_
        simp -implicitDefEqProofs (disch := constructor; omega) [↓h16_28, lenw, lenp, t0, t1, t2, t9, t10, t38, t39, t40, hi, hgy, hcy, hly, hun, w1]
        refine s16_29 ?_
        refine s16_30 ?_
        simp -implicitDefEqProofs (disch := constructor; omega) [↓h16_31, lenw, lenp, t0, t1, t2, t9, t10, t38, t39, t40, hi, hgy, hcy, hly, hun, w1]
        refine s16_32 ?_
        refine s16_33 (fun z s => ∃ (k : Nat) (kp' : Int → Bool), k + z = w.length ∧ s.t 0 = .v (.one (.slice jm 0 m.length)) ∧ s.t 1 = .v (.one (xw)) ∧ s.t 2 = .v (.one (xp)) ∧ s.t 9 = .v (.one (.slice q0 0 m.length)) ∧ s.t 10 = .v (.one (.slice q1 0 w.length)) ∧ s.t 14 = .v (.one (.int .i64 (u))) ∧ s.t 15 = .v (.one (.int .i64 ((foldR m a u (w.take k)).1))) ∧ s.t 16 = .v (.one (.bool ((foldR m a u (w.take k)).2))) ∧ s.t 38 = .v (.one (.slice jy 0 r.length)) ∧ s.t 39 = .v (.one (.int .i64 (r.length))) ∧ s.t 40 = .v (.one (.int .i64 (i))) ∧ s.t 44 = .v (.one (xw)) ∧ s.t 45 = .v (.one (.int .i64 (w.length))) ∧ s.t 46 = .v (.one (.int .i64 (k))) ∧ (∀ k' (hk : k' < w.length), kp' k' = if k' < k ∧ w[k'].t = u then kpS m a w[k'] else kp k') ∧ s.h.o q0 = some (.cells q0 false 3 1 (gZ m.length a)) ∧ s.h.o q1 = some (.cells q1 false 4 1 (gB w.length kp')) ∧ Own s.h.o lo s.h.nx (.slice jy 0 r.length) 3 1 enI r f ∧ lo ≤ s.h.nx ∧ ∀ v, v < h.nx → s.h.o v = h.o v) w.length ?_ ?_
        · have hf0 : foldR m a u [] = (0, false) := rfl
          exact ⟨0, kp, by omega, by simp -implicitDefEqProofs (disch := constructor; omega) [lenw, lenp, t0, t1, t2, t9, t10, t38, t39, t40, hf0], by simp -implicitDefEqProofs (disch := constructor; omega) [lenw, lenp, t0, t1, t2, t9, t10, t38, t39, t40, hf0], by simp -implicitDefEqProofs (disch := constructor; omega) [lenw, lenp, t0, t1, t2, t9, t10, t38, t39, t40, hf0], by simp -implicitDefEqProofs (disch := constructor; omega) [lenw, lenp, t0, t1, t2, t9, t10, t38, t39, t40, hf0], by simp -implicitDefEqProofs (disch := constructor; omega) [lenw, lenp, t0, t1, t2, t9, t10, t38, t39, t40, hf0], by simp -implicitDefEqProofs (disch := constructor; omega) [lenw, lenp, t0, t1, t2, t9, t10, t38, t39, t40, hf0], by simp -implicitDefEqProofs (disch := constructor; omega) [lenw, lenp, t0, t1, t2, t9, t10, t38, t39, t40, hf0], by simp -implicitDefEqProofs (disch := constructor; omega) [lenw, lenp, t0, t1, t2, t9, t10, t38, t39, t40, hf0], by simp -implicitDefEqProofs (disch := constructor; omega) [lenw, lenp, t0, t1, t2, t9, t10, t38, t39, t40, hf0], by simp -implicitDefEqProofs (disch := constructor; omega) [lenw, lenp, t0, t1, t2, t9, t10, t38, t39, t40, hf0], by simp -implicitDefEqProofs (disch := constructor; omega) [lenw, lenp, t0, t1, t2, t9, t10, t38, t39, t40, hf0], by simp -implicitDefEqProofs (disch := constructor; omega) [lenw, lenp, t0, t1, t2, t9, t10, t38, t39, t40, hf0], by simp -implicitDefEqProofs (disch := constructor; omega) [lenw, lenp, t0, t1, t2, t9, t10, t38, t39, t40, hf0], by simp -implicitDefEqProofs (disch := constructor; omega) [lenw, lenp, t0, t1, t2, t9, t10, t38, t39, t40, hf0], fun k' hk' => by simp, o0, o1, O.keep' (by (try dsimp only [keepOnly_eq]); omega) fun _ _ => rfl, (by (try dsimp only [keepOnly_eq]); omega), ho⟩
        · clear o0 o1 O hn hgy hcy hly ho t0 t1 t2 t9 t10 t38 t39 t40
          rintro z s Q3 ⟨k, kp', hz, t0, t1, t2, t9, t10, t14, t15, t16, t38, t39, t40, t44, t45, t46, hkp, o0, o1, O, hn, ho⟩ hN' hE' hR'
          have cm := (ho jm hjm).trans hcm
          refine s16_34 ?_
          simp -implicitDefEqProofs (disch := constructor; omega) [↓h16_35, lenw, lenp, t0, t1, t2, t9, t10, t14, t15, t16, t38, t39, t40, t44, t45, t46]
          refine s16_36 ?_
          simp -implicitDefEqProofs (disch := constructor; omega) [lenw, lenp, t0, t1, t2, t9, t10, t14, t15, t16, t38, t39, t40, t44, t45, t46]
          split
          · rename_i hk2
            obtain ⟨jw, fw, row, ew, ww, csw, rfl, hjw, hcw, hlw, hgw1, hgw2, hgw3⟩ := vw.get enW_len hk2
            have cw := (ho jw hjw).trans hcw
            obtain ⟨x, hxe⟩ : ∃ x, x = w[k] := ⟨_, rfl⟩
            rw [← hxe] at hgw1 hgw2 hgw3
            have hmem : x ∈ w := by rw [hxe]; exact List.getElem_mem hk2
            obtain ⟨⟨xf0, xfn, xt0, xtn⟩, xft, xmn, xms⟩ := V.ww x hmem
            have xmn' := within_iff.1 xmn
            obtain ⟨uf, huf⟩ : ∃ n : Nat, x.f = n := ⟨x.f.toNat, by omega⟩
            have hufn : uf < m.length := by omega
            have w2 := wrap64 (show -9223372036854775808 ≤ (k : Int) + 1 by omega) (by omega)
            have hstep := foldR_step (m := m) (a := a) (i := u) hk2
            rw [← hxe] at hstep
            by_cases hxt : x.t = u
            · have bdf := P.bd uf
              have w3 := wrap64 (show -9223372036854775808 ≤ a uf + x.mn by omega) (by omega)
              have ga := gZ_get (f := a) hufn
              have mt := momS_ok V.mm u
              rw [hms] at mt
              have xms' : -1 ≤ x.ms ∧ x.ms ≤ 4194304 := by
                rcases xms with h | h
                · omega
                · have := within_iff.1 h; omega
              have w4 := wrap64 (show -9223372036854775808 ≤ m[u].t + x.ms by omega) (by omega)
              have gB2 : ∀ b, (gB w.length kp').set k (.bool b) = gB w.length (updZ kp' k b) := fun b => gB_set hk2 b
              have gB3 : ∀ b, (gB w.length (updZ kp' k b))[k]? = some (.bool b) := fun b => by rw [gB_get hk2]; simp [updZ]
              have hkpx : kpS m a x = decide (x.ms = -1 ∨ a uf + x.mn ≤ m[u].t + x.ms) := by unfold kpS; rw [hxt, hms, huf]
              refine s16_38 ?_
              refine s16_39 ?_
              refine s16_40 ?_
              simp -implicitDefEqProofs (disch := constructor; omega) [↓h16_41, lenw, lenp, t0, t1, t2, t9, t10, t14, t15, t16, t38, t39, t40, t44, t45, t46, hk2, cw, hlw, hgw2, enW, w2, hxt, huf, hufn, w3, ga, o0, gZ_len]
              refine s16_42 ?_
              refine s16_43 ?_
              simp -implicitDefEqProofs (disch := constructor; omega) [↓h16_44, lenw, lenp, t0, t1, t2, t9, t10, t14, t15, t16, t38, t39, t40, t44, t45, t46, hk2, cw, hlw, hgw2, enW, w2, hxt, huf, hufn, w3, ga, o0, gZ_len]
              refine s16_45 ?_
              simp -implicitDefEqProofs (disch := constructor; omega) [lenw, lenp, t0, t1, t2, t9, t10, t14, t15, t16, t38, t39, t40, t44, t45, t46, hk2, cw, hlw, hgw2, enW, w2, hxt, huf, hufn, w3, ga, o0, gZ_len]
              refine s16_46 ?_
              simp -implicitDefEqProofs (disch := constructor; omega) [↓h16_47, lenw, lenp, t0, t1, t2, t9, t10, t14, t15, t16, t38, t39, t40, t44, t45, t46, hk2, cw, hlw, hgw2, enW, w2, hxt, huf, hufn, w3, ga, o0, gZ_len]
              refine wC_cut (a := c16_49) (b := c16_50) (fun s1 => s1.t 0 = .v (.one (.slice jm 0 m.length)) ∧ s1.t 1 = .v (.one (.slice jw 0 w.length)) ∧ s1.t 2 = .v (.one (xp)) ∧ s1.t 9 = .v (.one (.slice q0 0 m.length)) ∧ s1.t 10 = .v (.one (.slice q1 0 w.length)) ∧ s1.t 14 = .v (.one (.int .i64 (u))) ∧ s1.t 15 = .v (.one (.int .i64 ((foldR m a u (w.take k)).1))) ∧ s1.t 16 = .v (.one (.bool ((foldR m a u (w.take k)).2))) ∧ s1.t 17 = .v (.one (.int .i64 (k))) ∧ s1.t 19 = .v (.one (.int .i64 (a uf + x.mn))) ∧ s1.t 38 = .v (.one (.slice jy 0 r.length)) ∧ s1.t 39 = .v (.one (.int .i64 (r.length))) ∧ s1.t 40 = .v (.one (.int .i64 (i))) ∧ s1.t 44 = .v (.one (.slice jw 0 w.length)) ∧ s1.t 45 = .v (.one (.int .i64 (w.length))) ∧ s1.t 46 = .v (.one (.int .i64 (k))) ∧ s1.h.o q0 = some (.cells q0 false 3 1 (gZ m.length a)) ∧ s1.h.o q1 = some (.cells q1 false 4 1 (gB w.length (updZ kp' k (kpS m a x)))) ∧ Own s1.h.o lo s1.h.nx (.slice jy 0 r.length) 3 1 enI r f ∧ lo ≤ s1.h.nx ∧ ∀ v, v < h.nx → s1.h.o v = h.o v) ?_ ?_
              · intro Q4 hh hX
                by_cases hm1 : x.ms = -1
                · have hkpv : kpS m a x = true := by rw [hkpx]; simp [hm1]
                  refine s16_49 ?_
                  (try simp -implicitDefEqProofs (disch := constructor; omega) [↓h16_49, ↓w16_49_1, ↓h16_49_1g, ↓h16_49_2, t0, t1, t2, t9, t10, t14, t15, t16, t38, t39, t40, t44, t45, t46, hxt, huf, o1, gB_len, hk2, hm1])
                  refine hh _ ⟨by simp -implicitDefEqProofs (disch := constructor; omega) [t0, t1, t2, t9, t10, t14, t15, t16, t38, t39, t40, t44, t45, t46, hxt, huf, o1, gB_len, hk2], by simp -implicitDefEqProofs (disch := constructor; omega) [t0, t1, t2, t9, t10, t14, t15, t16, t38, t39, t40, t44, t45, t46, hxt, huf, o1, gB_len, hk2], by simp -implicitDefEqProofs (disch := constructor; omega) [t0, t1, t2, t9, t10, t14, t15, t16, t38, t39, t40, t44, t45, t46, hxt, huf, o1, gB_len, hk2], by simp -implicitDefEqProofs (disch := constructor; omega) [t0, t1, t2, t9, t10, t14, t15, t16, t38, t39, t40, t44, t45, t46, hxt, huf, o1, gB_len, hk2], by simp -implicitDefEqProofs (disch := constructor; omega) [t0, t1, t2, t9, t10, t14, t15, t16, t38, t39, t40, t44, t45, t46, hxt, huf, o1, gB_len, hk2], by simp -implicitDefEqProofs (disch := constructor; omega) [t0, t1, t2, t9, t10, t14, t15, t16, t38, t39, t40, t44, t45, t46, hxt, huf, o1, gB_len, hk2], by simp -implicitDefEqProofs (disch := constructor; omega) [t0, t1, t2, t9, t10, t14, t15, t16, t38, t39, t40, t44, t45, t46, hxt, huf, o1, gB_len, hk2], by simp -implicitDefEqProofs (disch := constructor; omega) [t0, t1, t2, t9, t10, t14, t15, t16, t38, t39, t40, t44, t45, t46, hxt, huf, o1, gB_len, hk2], by simp -implicitDefEqProofs (disch := constructor; omega) [t0, t1, t2, t9, t10, t14, t15, t16, t38, t39, t40, t44, t45, t46, hxt, huf, o1, gB_len, hk2], by simp -implicitDefEqProofs (disch := constructor; omega) [t0, t1, t2, t9, t10, t14, t15, t16, t38, t39, t40, t44, t45, t46, hxt, huf, o1, gB_len, hk2], by simp -implicitDefEqProofs (disch := constructor; omega) [t0, t1, t2, t9, t10, t14, t15, t16, t38, t39, t40, t44, t45, t46, hxt, huf, o1, gB_len, hk2], by simp -implicitDefEqProofs (disch := constructor; omega) [t0, t1, t2, t9, t10, t14, t15, t16, t38, t39, t40, t44, t45, t46, hxt, huf, o1, gB_len, hk2], by simp -implicitDefEqProofs (disch := constructor; omega) [t0, t1, t2, t9, t10, t14, t15, t16, t38, t39, t40, t44, t45, t46, hxt, huf, o1, gB_len, hk2], by simp -implicitDefEqProofs (disch := constructor; omega) [t0, t1, t2, t9, t10, t14, t15, t16, t38, t39, t40, t44, t45, t46, hxt, huf, o1, gB_len, hk2], by simp -implicitDefEqProofs (disch := constructor; omega) [t0, t1, t2, t9, t10, t14, t15, t16, t38, t39, t40, t44, t45, t46, hxt, huf, o1, gB_len, hk2], by simp -implicitDefEqProofs (disch := constructor; omega) [t0, t1, t2, t9, t10, t14, t15, t16, t38, t39, t40, t44, t45, t46, hxt, huf, o1, gB_len, hk2], by simp -implicitDefEqProofs (disch := constructor; omega) [t0, t1, t2, t9, t10, t14, t15, t16, t38, t39, t40, t44, t45, t46, hxt, huf, o1, gB_len, hk2, o0], by simp -implicitDefEqProofs (disch := constructor; omega) [t0, t1, t2, t9, t10, t14, t15, t16, t38, t39, t40, t44, t45, t46, hxt, huf, o1, gB_len, hk2, hkpv, gB2], ?_, (by (try dsimp only [keepOnly_eq]); omega), fun i hi => by simp -implicitDefEqProofs (disch := constructor; omega) [t0, t1, t2, t9, t10, t14, t15, t16, t38, t39, t40, t44, t45, t46, hxt, huf, o1, gB_len, hk2]; exact ho i hi⟩
                  exact O.keep (by (try dsimp only [keepOnly_eq]); omega) fun i cs h1 h2 h3 => killB (n := s.h.nx) (by omega) h2 (by omega) (.inr (by rw [h3]; exact (by omega : f ≠ q1)))
                · have hm2 := eq_false hm1
                  have hkpv : kpS m a x = decide (a uf + x.mn ≤ m[u].t + x.ms) := by rw [hkpx]; simp [hm1]
                  refine s16_49 ?_
                  (try simp -implicitDefEqProofs (disch := constructor; omega) [↓h16_49, ↓w16_49_1, ↓h16_49_1g, ↓h16_49_2, t0, t1, t2, t9, t10, t14, t15, t16, t38, t39, t40, t44, t45, t46, hxt, huf, o1, gB_len, hk2, cm, gm0, hlm, w4, hun, hm2])
                  refine hh _ ⟨by simp -implicitDefEqProofs (disch := constructor; omega) [t0, t1, t2, t9, t10, t14, t15, t16, t38, t39, t40, t44, t45, t46, hxt, huf, o1, gB_len, hk2, cm, gm0, hlm, w4, hun], by simp -implicitDefEqProofs (disch := constructor; omega) [t0, t1, t2, t9, t10, t14, t15, t16, t38, t39, t40, t44, t45, t46, hxt, huf, o1, gB_len, hk2, cm, gm0, hlm, w4, hun], by simp -implicitDefEqProofs (disch := constructor; omega) [t0, t1, t2, t9, t10, t14, t15, t16, t38, t39, t40, t44, t45, t46, hxt, huf, o1, gB_len, hk2, cm, gm0, hlm, w4, hun], by simp -implicitDefEqProofs (disch := constructor; omega) [t0, t1, t2, t9, t10, t14, t15, t16, t38, t39, t40, t44, t45, t46, hxt, huf, o1, gB_len, hk2, cm, gm0, hlm, w4, hun], by simp -implicitDefEqProofs (disch := constructor; omega) [t0, t1, t2, t9, t10, t14, t15, t16, t38, t39, t40, t44, t45, t46, hxt, huf, o1, gB_len, hk2, cm, gm0, hlm, w4, hun], by simp -implicitDefEqProofs (disch := constructor; omega) [t0, t1, t2, t9, t10, t14, t15, t16, t38, t39, t40, t44, t45, t46, hxt, huf, o1, gB_len, hk2, cm, gm0, hlm, w4, hun], by simp -implicitDefEqProofs (disch := constructor; omega) [t0, t1, t2, t9, t10, t14, t15, t16, t38, t39, t40, t44, t45, t46, hxt, huf, o1, gB_len, hk2, cm, gm0, hlm, w4, hun], by simp -implicitDefEqProofs (disch := constructor; omega) [t0, t1, t2, t9, t10, t14, t15, t16, t38, t39, t40, t44, t45, t46, hxt, huf, o1, gB_len, hk2, cm, gm0, hlm, w4, hun], by simp -implicitDefEqProofs (disch := constructor; omega) [t0, t1, t2, t9, t10, t14, t15, t16, t38, t39, t40, t44, t45, t46, hxt, huf, o1, gB_len, hk2, cm, gm0, hlm, w4, hun], by simp -implicitDefEqProofs (disch := constructor; omega) [t0, t1, t2, t9, t10, t14, t15, t16, t38, t39, t40, t44, t45, t46, hxt, huf, o1, gB_len, hk2, cm, gm0, hlm, w4, hun], by simp -implicitDefEqProofs (disch := constructor; omega) [t0, t1, t2, t9, t10, t14, t15, t16, t38, t39, t40, t44, t45, t46, hxt, huf, o1, gB_len, hk2, cm, gm0, hlm, w4, hun], by simp -implicitDefEqProofs (disch := constructor; omega) [t0, t1, t2, t9, t10, t14, t15, t16, t38, t39, t40, t44, t45, t46, hxt, huf, o1, gB_len, hk2, cm, gm0, hlm, w4, hun], by simp -implicitDefEqProofs (disch := constructor; omega) [t0, t1, t2, t9, t10, t14, t15, t16, t38, t39, t40, t44, t45, t46, hxt, huf, o1, gB_len, hk2, cm, gm0, hlm, w4, hun], by simp -implicitDefEqProofs (disch := constructor; omega) [t0, t1, t2, t9, t10, t14, t15, t16, t38, t39, t40, t44, t45, t46, hxt, huf, o1, gB_len, hk2, cm, gm0, hlm, w4, hun], by simp -implicitDefEqProofs (disch := constructor; omega) [t0, t1, t2, t9, t10, t14, t15, t16, t38, t39, t40, t44, t45, t46, hxt, huf, o1, gB_len, hk2, cm, gm0, hlm, w4, hun], by simp -implicitDefEqProofs (disch := constructor; omega) [t0, t1, t2, t9, t10, t14, t15, t16, t38, t39, t40, t44, t45, t46, hxt, huf, o1, gB_len, hk2, cm, gm0, hlm, w4, hun], by simp -implicitDefEqProofs (disch := constructor; omega) [t0, t1, t2, t9, t10, t14, t15, t16, t38, t39, t40, t44, t45, t46, hxt, huf, o1, gB_len, hk2, cm, gm0, hlm, w4, hun, o0], by simp -implicitDefEqProofs (disch := constructor; omega) [t0, t1, t2, t9, t10, t14, t15, t16, t38, t39, t40, t44, t45, t46, hxt, huf, o1, gB_len, hk2, cm, gm0, hlm, w4, hun, hkpv, gB2], ?_, (by (try dsimp only [keepOnly_eq]); omega), fun i hi => by simp -implicitDefEqProofs (disch := constructor; omega) [t0, t1, t2, t9, t10, t14, t15, t16, t38, t39, t40, t44, t45, t46, hxt, huf, o1, gB_len, hk2, cm, gm0, hlm, w4, hun]; exact ho i hi⟩
                  exact O.keep (by (try dsimp only [keepOnly_eq]); omega) fun i cs h1 h2 h3 => killB (n := s.h.nx) (by omega) h2 (by omega) (.inr (by rw [h3]; exact (by omega : f ≠ q1)))
              · clear t0 t1 t2 t9 t10 t14 t15 t16 t38 t39 t40 t44 t45 t46 o0 o1 O hn ho cm cw
                rintro s1 ⟨t0, t1, t2, t9, t10, t14, t15, t16, t17, t19, t38, t39, t40, t44, t45, t46, o0, o1, O, hn, ho⟩
                have gB4 := gB3 (kpS m a x)
                by_cases hkb : kpS m a x = true
                · have gB5 : (gB w.length (updZ kp' k (kpS m a x)))[k]? = some (.bool true) := gB4.trans (by rw [hkb])
                  by_cases hbd : (foldR m a u (w.take k)).2 = true
                  · by_cases hlt : (foldR m a u (w.take k)).1 < a uf + x.mn
                    · skip
                      refine s16_50 ?_
                      simp -implicitDefEqProofs (disch := constructor; omega) [↓h16_51, ↓w16_51_1, ↓h16_51_1g, ↓w16_51_2, ↓h16_51_2g, ↓w16_51_3, ↓h16_51_3g, ↓h16_51_4, t0, t1, t2, t9, t10, t14, t15, t16, t17, t19, t38, t39, t40, t44, t45, t46, hk2, w2, o1, gB_len, gB5, hbd, hlt]
                      have hsame : foldR m a u (w.take (k + 1)) = (a uf + x.mn, true) := by
                        rw [hstep]; unfold stB; rw [if_pos ⟨hxt, hkb, .inr (by rw [huf]; exact hlt)⟩, huf]
                      refine s16_52 ?_
                      simp -implicitDefEqProofs (disch := constructor; omega) [t0, t1, t2, t9, t10, t14, t15, t16, t17, t19, t38, t39, t40, t44, t45, t46, hk2, w2, o1, gB_len, gB5, hbd, hlt]
                      refine s16_53 ?_
                      simp -implicitDefEqProofs (disch := constructor; omega) [↓h16_53, t0, t1, t2, t9, t10, t14, t15, t16, t17, t19, t38, t39, t40, t44, t45, t46, hk2, w2, o1, gB_len, gB5, hbd, hlt]
                      refine s16_54 ?_
                      simp -implicitDefEqProofs (disch := constructor; omega) [↓h16_54, t0, t1, t2, t9, t10, t14, t15, t16, t17, t19, t38, t39, t40, t44, t45, t46, hk2, w2, o1, gB_len, gB5, hbd, hlt]
                      refine hN' (z - 1) _ (by omega) ?_
                      dsimp only [keepOnly_eq]
                      refine ⟨k + 1, updZ kp' k (kpS m a x), by omega, by simp -implicitDefEqProofs (disch := constructor; omega) [t0, t1, t2, t9, t10, t14, t15, t16, t17, t19, t38, t39, t40, t44, t45, t46, hk2, w2, o1, gB_len, gB5, hbd, hlt], by simp -implicitDefEqProofs (disch := constructor; omega) [t0, t1, t2, t9, t10, t14, t15, t16, t17, t19, t38, t39, t40, t44, t45, t46, hk2, w2, o1, gB_len, gB5, hbd, hlt], by simp -implicitDefEqProofs (disch := constructor; omega) [t0, t1, t2, t9, t10, t14, t15, t16, t17, t19, t38, t39, t40, t44, t45, t46, hk2, w2, o1, gB_len, gB5, hbd, hlt], by simp -implicitDefEqProofs (disch := constructor; omega) [t0, t1, t2, t9, t10, t14, t15, t16, t17, t19, t38, t39, t40, t44, t45, t46, hk2, w2, o1, gB_len, gB5, hbd, hlt], by simp -implicitDefEqProofs (disch := constructor; omega) [t0, t1, t2, t9, t10, t14, t15, t16, t17, t19, t38, t39, t40, t44, t45, t46, hk2, w2, o1, gB_len, gB5, hbd, hlt], by simp -implicitDefEqProofs (disch := constructor; omega) [t0, t1, t2, t9, t10, t14, t15, t16, t17, t19, t38, t39, t40, t44, t45, t46, hk2, w2, o1, gB_len, gB5, hbd, hlt], by rw [hsame]; simp -implicitDefEqProofs (disch := constructor; omega) [t0, t1, t2, t9, t10, t14, t15, t16, t17, t19, t38, t39, t40, t44, t45, t46, hk2, w2, o1, gB_len, gB5, hbd, hlt], by rw [hsame]; simp -implicitDefEqProofs (disch := constructor; omega) [t0, t1, t2, t9, t10, t14, t15, t16, t17, t19, t38, t39, t40, t44, t45, t46, hk2, w2, o1, gB_len, gB5, hbd, hlt], by simp -implicitDefEqProofs (disch := constructor; omega) [t0, t1, t2, t9, t10, t14, t15, t16, t17, t19, t38, t39, t40, t44, t45, t46, hk2, w2, o1, gB_len, gB5, hbd, hlt], by simp -implicitDefEqProofs (disch := constructor; omega) [t0, t1, t2, t9, t10, t14, t15, t16, t17, t19, t38, t39, t40, t44, t45, t46, hk2, w2, o1, gB_len, gB5, hbd, hlt], by simp -implicitDefEqProofs (disch := constructor; omega) [t0, t1, t2, t9, t10, t14, t15, t16, t17, t19, t38, t39, t40, t44, t45, t46, hk2, w2, o1, gB_len, gB5, hbd, hlt], by simp -implicitDefEqProofs (disch := constructor; omega) [t0, t1, t2, t9, t10, t14, t15, t16, t17, t19, t38, t39, t40, t44, t45, t46, hk2, w2, o1, gB_len, gB5, hbd, hlt], by simp -implicitDefEqProofs (disch := constructor; omega) [t0, t1, t2, t9, t10, t14, t15, t16, t17, t19, t38, t39, t40, t44, t45, t46, hk2, w2, o1, gB_len, gB5, hbd, hlt], by simp -implicitDefEqProofs (disch := constructor; omega) [t0, t1, t2, t9, t10, t14, t15, t16, t17, t19, t38, t39, t40, t44, t45, t46, hk2, w2, o1, gB_len, gB5, hbd, hlt], fun k' hk' => ?_, by simp -implicitDefEqProofs (disch := constructor; omega) [t0, t1, t2, t9, t10, t14, t15, t16, t17, t19, t38, t39, t40, t44, t45, t46, hk2, w2, o1, gB_len, gB5, hbd, hlt, o0], by simp -implicitDefEqProofs (disch := constructor; omega) [t0, t1, t2, t9, t10, t14, t15, t16, t17, t19, t38, t39, t40, t44, t45, t46, hk2, w2, o1, gB_len, gB5, hbd, hlt, o1], O.keep' (by (try dsimp only [keepOnly_eq]); omega) fun i hi => (by simp -implicitDefEqProofs (disch := constructor; omega) [t0, t1, t2, t9, t10, t14, t15, t16, t17, t19, t38, t39, t40, t44, t45, t46, hk2, w2, o1, gB_len, gB5, hbd, hlt]), (by (try dsimp only [keepOnly_eq]); omega), fun i hi => ho i hi⟩
                      exact kpE hkp hk2 hxe hxt k' hk'
                    · have hlt2 := eq_false hlt
                      refine s16_50 ?_
                      simp -implicitDefEqProofs (disch := constructor; omega) [↓h16_51, ↓w16_51_1, ↓h16_51_1g, ↓w16_51_2, ↓h16_51_2g, ↓w16_51_3, ↓h16_51_3g, ↓h16_51_4, t0, t1, t2, t9, t10, t14, t15, t16, t17, t19, t38, t39, t40, t44, t45, t46, hk2, w2, o1, gB_len, gB5, hbd, hlt2]
                      have hsame : foldR m a u (w.take (k + 1)) = foldR m a u (w.take k) := by
                        rw [hstep]; unfold stB; rw [if_neg (fun h => h.2.2.elim (fun h => by rw [hbd] at h; cases h) (fun h => hlt (by rw [← huf]; exact h)))]
                      refine s16_52 ?_
                      simp -implicitDefEqProofs (disch := constructor; omega) [t0, t1, t2, t9, t10, t14, t15, t16, t17, t19, t38, t39, t40, t44, t45, t46, hk2, w2, o1, gB_len, gB5, hbd, hlt2]
                      skip
                      refine s16_54 ?_
                      simp -implicitDefEqProofs (disch := constructor; omega) [↓h16_54, t0, t1, t2, t9, t10, t14, t15, t16, t17, t19, t38, t39, t40, t44, t45, t46, hk2, w2, o1, gB_len, gB5, hbd, hlt2]
                      refine hN' (z - 1) _ (by omega) ?_
                      dsimp only [keepOnly_eq]
                      refine ⟨k + 1, updZ kp' k (kpS m a x), by omega, by simp -implicitDefEqProofs (disch := constructor; omega) [t0, t1, t2, t9, t10, t14, t15, t16, t17, t19, t38, t39, t40, t44, t45, t46, hk2, w2, o1, gB_len, gB5, hbd, hlt2], by simp -implicitDefEqProofs (disch := constructor; omega) [t0, t1, t2, t9, t10, t14, t15, t16, t17, t19, t38, t39, t40, t44, t45, t46, hk2, w2, o1, gB_len, gB5, hbd, hlt2], by simp -implicitDefEqProofs (disch := constructor; omega) [t0, t1, t2, t9, t10, t14, t15, t16, t17, t19, t38, t39, t40, t44, t45, t46, hk2, w2, o1, gB_len, gB5, hbd, hlt2], by simp -implicitDefEqProofs (disch := constructor; omega) [t0, t1, t2, t9, t10, t14, t15, t16, t17, t19, t38, t39, t40, t44, t45, t46, hk2, w2, o1, gB_len, gB5, hbd, hlt2], by simp -implicitDefEqProofs (disch := constructor; omega) [t0, t1, t2, t9, t10, t14, t15, t16, t17, t19, t38, t39, t40, t44, t45, t46, hk2, w2, o1, gB_len, gB5, hbd, hlt2], by simp -implicitDefEqProofs (disch := constructor; omega) [t0, t1, t2, t9, t10, t14, t15, t16, t17, t19, t38, t39, t40, t44, t45, t46, hk2, w2, o1, gB_len, gB5, hbd, hlt2], by rw [hsame]; simp -implicitDefEqProofs (disch := constructor; omega) [t0, t1, t2, t9, t10, t14, t15, t16, t17, t19, t38, t39, t40, t44, t45, t46, hk2, w2, o1, gB_len, gB5, hbd, hlt2], by rw [hsame]; simp -implicitDefEqProofs (disch := constructor; omega) [t0, t1, t2, t9, t10, t14, t15, t16, t17, t19, t38, t39, t40, t44, t45, t46, hk2, w2, o1, gB_len, gB5, hbd, hlt2], by simp -implicitDefEqProofs (disch := constructor; omega) [t0, t1, t2, t9, t10, t14, t15, t16, t17, t19, t38, t39, t40, t44, t45, t46, hk2, w2, o1, gB_len, gB5, hbd, hlt2], by simp -implicitDefEqProofs (disch := constructor; omega) [t0, t1, t2, t9, t10, t14, t15, t16, t17, t19, t38, t39, t40, t44, t45, t46, hk2, w2, o1, gB_len, gB5, hbd, hlt2], by simp -implicitDefEqProofs (disch := constructor; omega) [t0, t1, t2, t9, t10, t14, t15, t16, t17, t19, t38, t39, t40, t44, t45, t46, hk2, w2, o1, gB_len, gB5, hbd, hlt2], by simp -implicitDefEqProofs (disch := constructor; omega) [t0, t1, t2, t9, t10, t14, t15, t16, t17, t19, t38, t39, t40, t44, t45, t46, hk2, w2, o1, gB_len, gB5, hbd, hlt2], by simp -implicitDefEqProofs (disch := constructor; omega) [t0, t1, t2, t9, t10, t14, t15, t16, t17, t19, t38, t39, t40, t44, t45, t46, hk2, w2, o1, gB_len, gB5, hbd, hlt2], by simp -implicitDefEqProofs (disch := constructor; omega) [t0, t1, t2, t9, t10, t14, t15, t16, t17, t19, t38, t39, t40, t44, t45, t46, hk2, w2, o1, gB_len, gB5, hbd, hlt2], fun k' hk' => ?_, by simp -implicitDefEqProofs (disch := constructor; omega) [t0, t1, t2, t9, t10, t14, t15, t16, t17, t19, t38, t39, t40, t44, t45, t46, hk2, w2, o1, gB_len, gB5, hbd, hlt2, o0], by simp -implicitDefEqProofs (disch := constructor; omega) [t0, t1, t2, t9, t10, t14, t15, t16, t17, t19, t38, t39, t40, t44, t45, t46, hk2, w2, o1, gB_len, gB5, hbd, hlt2, o1], O.keep' (by (try dsimp only [keepOnly_eq]); omega) fun i hi => (by simp -implicitDefEqProofs (disch := constructor; omega) [t0, t1, t2, t9, t10, t14, t15, t16, t17, t19, t38, t39, t40, t44, t45, t46, hk2, w2, o1, gB_len, gB5, hbd, hlt2]), (by (try dsimp only [keepOnly_eq]); omega), fun i hi => ho i hi⟩
                      exact kpE hkp hk2 hxe hxt k' hk'
                  · have hbd2 : (foldR m a u (w.take k)).2 = false := by simpa using hbd
                    refine s16_50 ?_
                    simp -implicitDefEqProofs (disch := constructor; omega) [↓h16_51, ↓w16_51_1, ↓h16_51_1g, ↓w16_51_2, ↓h16_51_2g, ↓w16_51_3, ↓h16_51_3g, ↓h16_51_4, t0, t1, t2, t9, t10, t14, t15, t16, t17, t19, t38, t39, t40, t44, t45, t46, hk2, w2, o1, gB_len, gB5, hbd2]
                    have hsame : foldR m a u (w.take (k + 1)) = (a uf + x.mn, true) := by
                      rw [hstep]; unfold stB; rw [if_pos ⟨hxt, hkb, .inl hbd2⟩, huf]
                    refine s16_52 ?_
                    simp -implicitDefEqProofs (disch := constructor; omega) [t0, t1, t2, t9, t10, t14, t15, t16, t17, t19, t38, t39, t40, t44, t45, t46, hk2, w2, o1, gB_len, gB5, hbd2]
                    refine s16_53 ?_
                    simp -implicitDefEqProofs (disch := constructor; omega) [↓h16_53, t0, t1, t2, t9, t10, t14, t15, t16, t17, t19, t38, t39, t40, t44, t45, t46, hk2, w2, o1, gB_len, gB5, hbd2]
                    refine s16_54 ?_
                    simp -implicitDefEqProofs (disch := constructor; omega) [↓h16_54, t0, t1, t2, t9, t10, t14, t15, t16, t17, t19, t38, t39, t40, t44, t45, t46, hk2, w2, o1, gB_len, gB5, hbd2]
                    refine hN' (z - 1) _ (by omega) ?_
                    dsimp only [keepOnly_eq]
                    refine ⟨k + 1, updZ kp' k (kpS m a x), by omega, by simp -implicitDefEqProofs (disch := constructor; omega) [t0, t1, t2, t9, t10, t14, t15, t16, t17, t19, t38, t39, t40, t44, t45, t46, hk2, w2, o1, gB_len, gB5, hbd2], by simp -implicitDefEqProofs (disch := constructor; omega) [t0, t1, t2, t9, t10, t14, t15, t16, t17, t19, t38, t39, t40, t44, t45, t46, hk2, w2, o1, gB_len, gB5, hbd2], by simp -implicitDefEqProofs (disch := constructor; omega) [t0, t1, t2, t9, t10, t14, t15, t16, t17, t19, t38, t39, t40, t44, t45, t46, hk2, w2, o1, gB_len, gB5, hbd2], by simp -implicitDefEqProofs (disch := constructor; omega) [t0, t1, t2, t9, t10, t14, t15, t16, t17, t19, t38, t39, t40, t44, t45, t46, hk2, w2, o1, gB_len, gB5, hbd2], by simp -implicitDefEqProofs (disch := constructor; omega) [t0, t1, t2, t9, t10, t14, t15, t16, t17, t19, t38, t39, t40, t44, t45, t46, hk2, w2, o1, gB_len, gB5, hbd2], by simp -implicitDefEqProofs (disch := constructor; omega) [t0, t1, t2, t9, t10, t14, t15, t16, t17, t19, t38, t39, t40, t44, t45, t46, hk2, w2, o1, gB_len, gB5, hbd2], by rw [hsame]; simp -implicitDefEqProofs (disch := constructor; omega) [t0, t1, t2, t9, t10, t14, t15, t16, t17, t19, t38, t39, t40, t44, t45, t46, hk2, w2, o1, gB_len, gB5, hbd2], by rw [hsame]; simp -implicitDefEqProofs (disch := constructor; omega) [t0, t1, t2, t9, t10, t14, t15, t16, t17, t19, t38, t39, t40, t44, t45, t46, hk2, w2, o1, gB_len, gB5, hbd2], by simp -implicitDefEqProofs (disch := constructor; omega) [t0, t1, t2, t9, t10, t14, t15, t16, t17, t19, t38, t39, t40, t44, t45, t46, hk2, w2, o1, gB_len, gB5, hbd2], by simp -implicitDefEqProofs (disch := constructor; omega) [t0, t1, t2, t9, t10, t14, t15, t16, t17, t19, t38, t39, t40, t44, t45, t46, hk2, w2, o1, gB_len, gB5, hbd2], by simp -implicitDefEqProofs (disch := constructor; omega) [t0, t1, t2, t9, t10, t14, t15, t16, t17, t19, t38, t39, t40, t44, t45, t46, hk2, w2, o1, gB_len, gB5, hbd2], by simp -implicitDefEqProofs (disch := constructor; omega) [t0, t1, t2, t9, t10, t14, t15, t16, t17, t19, t38, t39, t40, t44, t45, t46, hk2, w2, o1, gB_len, gB5, hbd2], by simp -implicitDefEqProofs (disch := constructor; omega) [t0, t1, t2, t9, t10, t14, t15, t16, t17, t19, t38, t39, t40, t44, t45, t46, hk2, w2, o1, gB_len, gB5, hbd2], by simp -implicitDefEqProofs (disch := constructor; omega) [t0, t1, t2, t9, t10, t14, t15, t16, t17, t19, t38, t39, t40, t44, t45, t46, hk2, w2, o1, gB_len, gB5, hbd2], fun k' hk' => ?_, by simp -implicitDefEqProofs (disch := constructor; omega) [t0, t1, t2, t9, t10, t14, t15, t16, t17, t19, t38, t39, t40, t44, t45, t46, hk2, w2, o1, gB_len, gB5, hbd2, o0], by simp -implicitDefEqProofs (disch := constructor; omega) [t0, t1, t2, t9, t10, t14, t15, t16, t17, t19, t38, t39, t40, t44, t45, t46, hk2, w2, o1, gB_len, gB5, hbd2, o1], O.keep' (by (try dsimp only [keepOnly_eq]); omega) fun i hi => (by simp -implicitDefEqProofs (disch := constructor; omega) [t0, t1, t2, t9, t10, t14, t15, t16, t17, t19, t38, t39, t40, t44, t45, t46, hk2, w2, o1, gB_len, gB5, hbd2]), (by (try dsimp only [keepOnly_eq]); omega), fun i hi => ho i hi⟩
                    exact kpE hkp hk2 hxe hxt k' hk'
                · have hkf : kpS m a x = false := by simpa using hkb
                  have gB5 : (gB w.length (updZ kp' k (kpS m a x)))[k]? = some (.bool false) := gB4.trans (by rw [hkf])
                  refine s16_50 ?_
                  simp -implicitDefEqProofs (disch := constructor; omega) [↓h16_51, ↓w16_51_1, ↓h16_51_1g, ↓w16_51_2, ↓h16_51_2g, ↓w16_51_3, ↓h16_51_3g, ↓h16_51_4, t0, t1, t2, t9, t10, t14, t15, t16, t17, t19, t38, t39, t40, t44, t45, t46, hk2, w2, o1, gB_len, gB5]
                  have hsame : foldR m a u (w.take (k + 1)) = foldR m a u (w.take k) := by
                    rw [hstep]; unfold stB; rw [if_neg (fun h => hkb h.2.1)]
                  refine s16_52 ?_
                  simp -implicitDefEqProofs (disch := constructor; omega) [t0, t1, t2, t9, t10, t14, t15, t16, t17, t19, t38, t39, t40, t44, t45, t46, hk2, w2, o1, gB_len, gB5]
                  skip
                  refine s16_54 ?_
                  simp -implicitDefEqProofs (disch := constructor; omega) [↓h16_54, t0, t1, t2, t9, t10, t14, t15, t16, t17, t19, t38, t39, t40, t44, t45, t46, hk2, w2, o1, gB_len, gB5]
                  refine hN' (z - 1) _ (by omega) ?_
                  dsimp only [keepOnly_eq]
                  refine ⟨k + 1, updZ kp' k (kpS m a x), by omega, by simp -implicitDefEqProofs (disch := constructor; omega) [t0, t1, t2, t9, t10, t14, t15, t16, t17, t19, t38, t39, t40, t44, t45, t46, hk2, w2, o1, gB_len, gB5], by simp -implicitDefEqProofs (disch := constructor; omega) [t0, t1, t2, t9, t10, t14, t15, t16, t17, t19, t38, t39, t40, t44, t45, t46, hk2, w2, o1, gB_len, gB5], by simp -implicitDefEqProofs (disch := constructor; omega) [t0, t1, t2, t9, t10, t14, t15, t16, t17, t19, t38, t39, t40, t44, t45, t46, hk2, w2, o1, gB_len, gB5], by simp -implicitDefEqProofs (disch := constructor; omega) [t0, t1, t2, t9, t10, t14, t15, t16, t17, t19, t38, t39, t40, t44, t45, t46, hk2, w2, o1, gB_len, gB5], by simp -implicitDefEqProofs (disch := constructor; omega) [t0, t1, t2, t9, t10, t14, t15, t16, t17, t19, t38, t39, t40, t44, t45, t46, hk2, w2, o1, gB_len, gB5], by simp -implicitDefEqProofs (disch := constructor; omega) [t0, t1, t2, t9, t10, t14, t15, t16, t17, t19, t38, t39, t40, t44, t45, t46, hk2, w2, o1, gB_len, gB5], by rw [hsame]; simp -implicitDefEqProofs (disch := constructor; omega) [t0, t1, t2, t9, t10, t14, t15, t16, t17, t19, t38, t39, t40, t44, t45, t46, hk2, w2, o1, gB_len, gB5], by rw [hsame]; simp -implicitDefEqProofs (disch := constructor; omega) [t0, t1, t2, t9, t10, t14, t15, t16, t17, t19, t38, t39, t40, t44, t45, t46, hk2, w2, o1, gB_len, gB5], by simp -implicitDefEqProofs (disch := constructor; omega) [t0, t1, t2, t9, t10, t14, t15, t16, t17, t19, t38, t39, t40, t44, t45, t46, hk2, w2, o1, gB_len, gB5], by simp -implicitDefEqProofs (disch := constructor; omega) [t0, t1, t2, t9, t10, t14, t15, t16, t17, t19, t38, t39, t40, t44, t45, t46, hk2, w2, o1, gB_len, gB5], by simp -implicitDefEqProofs (disch := constructor; omega) [t0, t1, t2, t9, t10, t14, t15, t16, t17, t19, t38, t39, t40, t44, t45, t46, hk2, w2, o1, gB_len, gB5], by simp -implicitDefEqProofs (disch := constructor; omega) [t0, t1, t2, t9, t10, t14, t15, t16, t17, t19, t38, t39, t40, t44, t45, t46, hk2, w2, o1, gB_len, gB5], by simp -implicitDefEqProofs (disch := constructor; omega) [t0, t1, t2, t9, t10, t14, t15, t16, t17, t19, t38, t39, t40, t44, t45, t46, hk2, w2, o1, gB_len, gB5], by simp -implicitDefEqProofs (disch := constructor; omega) [t0, t1, t2, t9, t10, t14, t15, t16, t17, t19, t38, t39, t40, t44, t45, t46, hk2, w2, o1, gB_len, gB5], fun k' hk' => ?_, by simp -implicitDefEqProofs (disch := constructor; omega) [t0, t1, t2, t9, t10, t14, t15, t16, t17, t19, t38, t39, t40, t44, t45, t46, hk2, w2, o1, gB_len, gB5, o0], by simp -implicitDefEqProofs (disch := constructor; omega) [t0, t1, t2, t9, t10, t14, t15, t16, t17, t19, t38, t39, t40, t44, t45, t46, hk2, w2, o1, gB_len, gB5, o1], O.keep' (by (try dsimp only [keepOnly_eq]); omega) fun i hi => (by simp -implicitDefEqProofs (disch := constructor; omega) [t0, t1, t2, t9, t10, t14, t15, t16, t17, t19, t38, t39, t40, t44, t45, t46, hk2, w2, o1, gB_len, gB5]), (by (try dsimp only [keepOnly_eq]); omega), fun i hi => ho i hi⟩
                  exact kpE hkp hk2 hxe hxt k' hk'
            · have hxt' := eq_false hxt
              refine s16_38 ?_
              refine s16_39 ?_
              refine s16_40 ?_
              simp -implicitDefEqProofs (disch := constructor; omega) [↓h16_41, lenw, lenp, t0, t1, t2, t9, t10, t14, t15, t16, t38, t39, t40, t44, t45, t46, hk2, cw, hlw, hgw2, enW, w2, hxt']
              refine s16_42 ?_
              refine s16_43 ?_
              simp -implicitDefEqProofs (disch := constructor; omega) [↓h16_44, lenw, lenp, t0, t1, t2, t9, t10, t14, t15, t16, t38, t39, t40, t44, t45, t46, hk2, cw, hlw, hgw2, enW, w2, hxt']
              refine s16_45 ?_
              simp -implicitDefEqProofs (disch := constructor; omega) [lenw, lenp, t0, t1, t2, t9, t10, t14, t15, t16, t38, t39, t40, t44, t45, t46, hk2, cw, hlw, hgw2, enW, w2, hxt']
              refine s16_54 ?_
              simp -implicitDefEqProofs (disch := constructor; omega) [↓h16_54, lenw, lenp, t0, t1, t2, t9, t10, t14, t15, t16, t38, t39, t40, t44, t45, t46, hk2, cw, hlw, hgw2, enW, w2, hxt']
              have hsame : foldR m a u (w.take (k + 1)) = foldR m a u (w.take k) := by
                rw [hstep]; unfold stB; rw [if_neg (fun h => hxt h.1)]
              refine hN' (z - 1) _ (by omega) ?_
              dsimp only [keepOnly_eq]
              refine ⟨k + 1, kp', by omega, by simp -implicitDefEqProofs (disch := constructor; omega) [lenw, lenp, t0, t1, t2, t9, t10, t14, t15, t16, t38, t39, t40, t44, t45, t46, hk2, cw, hlw, hgw2, enW, w2, hxt'], by simp -implicitDefEqProofs (disch := constructor; omega) [lenw, lenp, t0, t1, t2, t9, t10, t14, t15, t16, t38, t39, t40, t44, t45, t46, hk2, cw, hlw, hgw2, enW, w2, hxt'], by simp -implicitDefEqProofs (disch := constructor; omega) [lenw, lenp, t0, t1, t2, t9, t10, t14, t15, t16, t38, t39, t40, t44, t45, t46, hk2, cw, hlw, hgw2, enW, w2, hxt'], by simp -implicitDefEqProofs (disch := constructor; omega) [lenw, lenp, t0, t1, t2, t9, t10, t14, t15, t16, t38, t39, t40, t44, t45, t46, hk2, cw, hlw, hgw2, enW, w2, hxt'], by simp -implicitDefEqProofs (disch := constructor; omega) [lenw, lenp, t0, t1, t2, t9, t10, t14, t15, t16, t38, t39, t40, t44, t45, t46, hk2, cw, hlw, hgw2, enW, w2, hxt'], by simp -implicitDefEqProofs (disch := constructor; omega) [lenw, lenp, t0, t1, t2, t9, t10, t14, t15, t16, t38, t39, t40, t44, t45, t46, hk2, cw, hlw, hgw2, enW, w2, hxt'], by rw [hsame]; simp -implicitDefEqProofs (disch := constructor; omega) [lenw, lenp, t0, t1, t2, t9, t10, t14, t15, t16, t38, t39, t40, t44, t45, t46, hk2, cw, hlw, hgw2, enW, w2, hxt'], by rw [hsame]; simp -implicitDefEqProofs (disch := constructor; omega) [lenw, lenp, t0, t1, t2, t9, t10, t14, t15, t16, t38, t39, t40, t44, t45, t46, hk2, cw, hlw, hgw2, enW, w2, hxt'], by simp -implicitDefEqProofs (disch := constructor; omega) [lenw, lenp, t0, t1, t2, t9, t10, t14, t15, t16, t38, t39, t40, t44, t45, t46, hk2, cw, hlw, hgw2, enW, w2, hxt'], by simp -implicitDefEqProofs (disch := constructor; omega) [lenw, lenp, t0, t1, t2, t9, t10, t14, t15, t16, t38, t39, t40, t44, t45, t46, hk2, cw, hlw, hgw2, enW, w2, hxt'], by simp -implicitDefEqProofs (disch := constructor; omega) [lenw, lenp, t0, t1, t2, t9, t10, t14, t15, t16, t38, t39, t40, t44, t45, t46, hk2, cw, hlw, hgw2, enW, w2, hxt'], by simp -implicitDefEqProofs (disch := constructor; omega) [lenw, lenp, t0, t1, t2, t9, t10, t14, t15, t16, t38, t39, t40, t44, t45, t46, hk2, cw, hlw, hgw2, enW, w2, hxt'], by simp -implicitDefEqProofs (disch := constructor; omega) [lenw, lenp, t0, t1, t2, t9, t10, t14, t15, t16, t38, t39, t40, t44, t45, t46, hk2, cw, hlw, hgw2, enW, w2, hxt'], by simp -implicitDefEqProofs (disch := constructor; omega) [lenw, lenp, t0, t1, t2, t9, t10, t14, t15, t16, t38, t39, t40, t44, t45, t46, hk2, cw, hlw, hgw2, enW, w2, hxt'], fun k' hk' => ?_, by simp -implicitDefEqProofs (disch := constructor; omega) [lenw, lenp, t0, t1, t2, t9, t10, t14, t15, t16, t38, t39, t40, t44, t45, t46, hk2, cw, hlw, hgw2, enW, w2, hxt', o0], by simp -implicitDefEqProofs (disch := constructor; omega) [lenw, lenp, t0, t1, t2, t9, t10, t14, t15, t16, t38, t39, t40, t44, t45, t46, hk2, cw, hlw, hgw2, enW, w2, hxt', o1], O.keep' (by (try dsimp only [keepOnly_eq]); omega) fun i hi => (by simp -implicitDefEqProofs (disch := constructor; omega) [lenw, lenp, t0, t1, t2, t9, t10, t14, t15, t16, t38, t39, t40, t44, t45, t46, hk2, cw, hlw, hgw2, enW, w2, hxt']), (by (try dsimp only [keepOnly_eq]); omega), fun i hi => by simp -implicitDefEqProofs (disch := constructor; omega) [lenw, lenp, t0, t1, t2, t9, t10, t14, t15, t16, t38, t39, t40, t44, t45, t46, hk2, cw, hlw, hgw2, enW, w2, hxt']; exact ho i hi⟩
              rw [hkp k' hk']
              by_cases e : k' = k
              · subst e
                rw [← hxe, if_neg (by simp [hxt]), if_neg (by simp [hxt])]
              · by_cases e2 : w[k'].t = u
                · simp only [e2, and_true]
                  by_cases e3 : k' < k
                  · rw [if_pos e3, if_pos (by omega)]
                  · rw [if_neg e3, if_neg (by omega)]
                · rw [if_neg (fun h => e2 h.2), if_neg (fun h => e2 h.2)]
          · rename_i hk2
            have hkw : k = w.length := by omega
            subst hkw
            rw [List.take_length] at t15 t16
            have hz0 := foldR_base (m := m) (a := a) (i := u) (w := w) (momS_ok V.mm u).1 (fun x hx => by have := P.bd x.f; have := within_iff.1 (V.ww x hx).2.2.1; omega)
            rw [hms] at hz0
            refine hE' 2 _ ?_
            (try simp -implicitDefEqProofs (disch := constructor; omega) [lenw, lenp, t0, t1, t2, t9, t10, t14, t15, t16, t38, t39, t40, t44, t45, t46])
            obtain ⟨z0, hz⟩ : ∃ z, z = (foldB m a u w).1 := ⟨_, rfl⟩
            have fin : ∀ (t : Nat → T) (nx : Nat) (Q' : AExit → St → Prop), (∀ s1, wC fs out c16_61 s1 Q2 → Q' .normal s1) → (t 0 = .v (.one (.slice jm 0 m.length)) ∧ t 1 = .v (.one (xw)) ∧ t 2 = .v (.one (xp)) ∧ t 9 = .v (.one (.slice q0 0 m.length)) ∧ t 10 = .v (.one (.slice q1 0 w.length)) ∧ t 14 = .v (.one (.int .i64 (u))) ∧ t 15 = .v (.one (.int .i64 (z0))) ∧ t 38 = .v (.one (.slice jy 0 r.length)) ∧ t 39 = .v (.one (.int .i64 (r.length))) ∧ t 40 = .v (.one (.int .i64 (i)))) → s.h.nx ≤ nx → wC fs out c16_60 ⟨t, ⟨s.h.o, nx⟩⟩ Q' := by
              clear t0 t1 t2 t9 t10 t14 t15 t16 t38 t39 t40 t44 t45 t46 cm hz0
              rintro t nx Q' hq ⟨t0, t1, t2, t9, t10, t14, t15, t38, t39, t40⟩ hnx
              refine s16_60 ?_
              simp -implicitDefEqProofs (disch := constructor; omega) [↓h16_60, ↓h16_60_1, t0, t1, t2, t9, t10, t14, t15, t38, t39, t40]
              refine wF_mono (k30 u xp p _ (vp.keep (by (try dsimp only [keepOnly_eq]); omega) fun i hi => ho i hi) (by omega)) ?_
              rintro _ h3 ⟨rfl, hn3, ho3⟩
              (try dsimp only at hn3 ho3)
              have pb := P.base_ok V u
              have hbz : baseS m w a u = z0 := by rw [hz]; rfl
              rw [hbz] at pb
              have pri := priS_ok V.pp V.pd u
              have w3 := wrap64 (show -9223372036854775808 ≤ z0 + priS p u by omega) (by omega)
              have hpe := primS_eq (i := u) p V.pd
              have o03 := (ho3 q0 (by omega)).trans o0
              have gs := gZ_set (f := a) hun (z0 + priS p u)
              (try simp -implicitDefEqProofs (disch := constructor; omega) [↓h16_60, ↓h16_60_1, t0, t1, t2, t9, t10, t14, t15, t38, t39, t40, w3, hpe, o03, hun, gZ_len, gs, w1])
              refine hq _ ?_
              refine s16_61 ?_
              simp -implicitDefEqProofs (disch := constructor; omega) [↓h16_61, t0, t1, t2, t9, t10, t14, t15, t38, t39, t40, w3, hpe, o03, hun, gZ_len, gs, w1]
              refine hN (k' - 1) _ (by omega) ?_
              dsimp only [keepOnly_eq]
              have hPs := P.step V S hi (kp' := kp') (fun k hk => by rw [hkp k hk, hu]; simp [hk])
              rw [hu, hbz] at hPs
              refine ⟨i + 1, updZ b u z0, updZ a u (z0 + priS p u), kp', by omega, by simp -implicitDefEqProofs (disch := constructor; omega) [t0, t1, t2, t9, t10, t14, t15, t38, t39, t40, w3, hpe, o03, hun, gZ_len, gs, w1], by simp -implicitDefEqProofs (disch := constructor; omega) [t0, t1, t2, t9, t10, t14, t15, t38, t39, t40, w3, hpe, o03, hun, gZ_len, gs, w1], by simp -implicitDefEqProofs (disch := constructor; omega) [t0, t1, t2, t9, t10, t14, t15, t38, t39, t40, w3, hpe, o03, hun, gZ_len, gs, w1], by simp -implicitDefEqProofs (disch := constructor; omega) [t0, t1, t2, t9, t10, t14, t15, t38, t39, t40, w3, hpe, o03, hun, gZ_len, gs, w1], by simp -implicitDefEqProofs (disch := constructor; omega) [t0, t1, t2, t9, t10, t14, t15, t38, t39, t40, w3, hpe, o03, hun, gZ_len, gs, w1], by simp -implicitDefEqProofs (disch := constructor; omega) [t0, t1, t2, t9, t10, t14, t15, t38, t39, t40, w3, hpe, o03, hun, gZ_len, gs, w1], by simp -implicitDefEqProofs (disch := constructor; omega) [t0, t1, t2, t9, t10, t14, t15, t38, t39, t40, w3, hpe, o03, hun, gZ_len, gs, w1], by simp -implicitDefEqProofs (disch := constructor; omega) [t0, t1, t2, t9, t10, t14, t15, t38, t39, t40, w3, hpe, o03, hun, gZ_len, gs, w1], hPs, ?_, ?_, ?_, (by (try dsimp only [keepOnly_eq]); omega), fun i hi => ?_⟩
              · (try simp -implicitDefEqProofs (disch := constructor; omega) [t0, t1, t2, t9, t10, t14, t15, t38, t39, t40, w3, hpe, o03, hun, gZ_len, gs, w1])
              · refine (updK (by omega) (.inr ?_)).trans ((ho3 q1 (by omega)).trans o1)
                rw [ho3 q1 (by omega)]; (try dsimp only); rw [o1]; exact (by omega : q1 ≠ q0)
              · refine (O.keep' (o' := h3.o) (n' := h3.nx) (by omega) fun i hi => ho3 i (by omega)).keep (by (try dsimp only [keepOnly_eq]); omega) fun i cs h1 h2 h3 => updK (by omega) (.inr (by rw [h3]; exact (by omega : f ≠ q0)))
              · exact (updK (f := q0) (q := q0) (by omega) (.inl (by omega))).trans ((ho3 i (by omega)).trans (ho i hi))
            cases hh : m[u].hold with
            | true =>
              rw [hh, if_pos (.inl rfl), ← hz] at hz0
              refine s16_55 ?_
              refine s16_56 ?_
              simp -implicitDefEqProofs (disch := constructor; omega) [↓h16_57, ↓w16_57_1, ↓h16_57_1g, ↓h16_57_2, lenw, lenp, t0, t1, t2, t9, t10, t14, t15, t16, t38, t39, t40, t44, t45, t46, cm, gm0, gm1, hlm, hun, hh, hz0]
              refine s16_58 ?_
              simp -implicitDefEqProofs (disch := constructor; omega) [lenw, lenp, t0, t1, t2, t9, t10, t14, t15, t16, t38, t39, t40, t44, t45, t46, cm, gm0, gm1, hlm, hun, hh, hz0]
              refine s16_59 ?_
              simp -implicitDefEqProofs (disch := constructor; omega) [↓h16_59, lenw, lenp, t0, t1, t2, t9, t10, t14, t15, t16, t38, t39, t40, t44, t45, t46, cm, gm0, gm1, hlm, hun, hh, hz0]
              exact fin _ _ _ (fun s1 h => by simp -implicitDefEqProofs (disch := constructor; omega) [lenw, lenp, t0, t1, t2, t9, t10, t14, t15, t16, t38, t39, t40, t44, t45, t46, cm, gm0, gm1, hlm, hun, hh, hz0]; exact h) ⟨by simp -implicitDefEqProofs (disch := constructor; omega) [lenw, lenp, t0, t1, t2, t9, t10, t14, t15, t16, t38, t39, t40, t44, t45, t46, cm, gm0, gm1, hlm, hun, hh, hz0], by simp -implicitDefEqProofs (disch := constructor; omega) [lenw, lenp, t0, t1, t2, t9, t10, t14, t15, t16, t38, t39, t40, t44, t45, t46, cm, gm0, gm1, hlm, hun, hh, hz0], by simp -implicitDefEqProofs (disch := constructor; omega) [lenw, lenp, t0, t1, t2, t9, t10, t14, t15, t16, t38, t39, t40, t44, t45, t46, cm, gm0, gm1, hlm, hun, hh, hz0], by simp -implicitDefEqProofs (disch := constructor; omega) [lenw, lenp, t0, t1, t2, t9, t10, t14, t15, t16, t38, t39, t40, t44, t45, t46, cm, gm0, gm1, hlm, hun, hh, hz0], by simp -implicitDefEqProofs (disch := constructor; omega) [lenw, lenp, t0, t1, t2, t9, t10, t14, t15, t16, t38, t39, t40, t44, t45, t46, cm, gm0, gm1, hlm, hun, hh, hz0], by simp -implicitDefEqProofs (disch := constructor; omega) [lenw, lenp, t0, t1, t2, t9, t10, t14, t15, t16, t38, t39, t40, t44, t45, t46, cm, gm0, gm1, hlm, hun, hh, hz0], by simp -implicitDefEqProofs (disch := constructor; omega) [lenw, lenp, t0, t1, t2, t9, t10, t14, t15, t16, t38, t39, t40, t44, t45, t46, cm, gm0, gm1, hlm, hun, hh, hz0], by simp -implicitDefEqProofs (disch := constructor; omega) [lenw, lenp, t0, t1, t2, t9, t10, t14, t15, t16, t38, t39, t40, t44, t45, t46, cm, gm0, gm1, hlm, hun, hh, hz0], by simp -implicitDefEqProofs (disch := constructor; omega) [lenw, lenp, t0, t1, t2, t9, t10, t14, t15, t16, t38, t39, t40, t44, t45, t46, cm, gm0, gm1, hlm, hun, hh, hz0], by simp -implicitDefEqProofs (disch := constructor; omega) [lenw, lenp, t0, t1, t2, t9, t10, t14, t15, t16, t38, t39, t40, t44, t45, t46, cm, gm0, gm1, hlm, hun, hh, hz0]⟩ (by (try dsimp only [keepOnly_eq]); omega)
            | false =>
              cases hs : (foldR m a u w).2 with
              | false =>
                rw [hh, hs, if_pos (.inr rfl), ← hz] at hz0
                refine s16_55 ?_
                refine s16_56 ?_
                simp -implicitDefEqProofs (disch := constructor; omega) [↓h16_57, ↓w16_57_1, ↓h16_57_1g, ↓h16_57_2, lenw, lenp, t0, t1, t2, t9, t10, t14, t15, t16, t38, t39, t40, t44, t45, t46, cm, gm0, gm1, hlm, hun, hh, hs, hz0]
                refine s16_58 ?_
                simp -implicitDefEqProofs (disch := constructor; omega) [lenw, lenp, t0, t1, t2, t9, t10, t14, t15, t16, t38, t39, t40, t44, t45, t46, cm, gm0, gm1, hlm, hun, hh, hs, hz0]
                refine s16_59 ?_
                simp -implicitDefEqProofs (disch := constructor; omega) [↓h16_59, lenw, lenp, t0, t1, t2, t9, t10, t14, t15, t16, t38, t39, t40, t44, t45, t46, cm, gm0, gm1, hlm, hun, hh, hs, hz0]
                exact fin _ _ _ (fun s1 h => by simp -implicitDefEqProofs (disch := constructor; omega) [lenw, lenp, t0, t1, t2, t9, t10, t14, t15, t16, t38, t39, t40, t44, t45, t46, cm, gm0, gm1, hlm, hun, hh, hs, hz0]; exact h) ⟨by simp -implicitDefEqProofs (disch := constructor; omega) [lenw, lenp, t0, t1, t2, t9, t10, t14, t15, t16, t38, t39, t40, t44, t45, t46, cm, gm0, gm1, hlm, hun, hh, hs, hz0], by simp -implicitDefEqProofs (disch := constructor; omega) [lenw, lenp, t0, t1, t2, t9, t10, t14, t15, t16, t38, t39, t40, t44, t45, t46, cm, gm0, gm1, hlm, hun, hh, hs, hz0], by simp -implicitDefEqProofs (disch := constructor; omega) [lenw, lenp, t0, t1, t2, t9, t10, t14, t15, t16, t38, t39, t40, t44, t45, t46, cm, gm0, gm1, hlm, hun, hh, hs, hz0], by simp -implicitDefEqProofs (disch := constructor; omega) [lenw, lenp, t0, t1, t2, t9, t10, t14, t15, t16, t38, t39, t40, t44, t45, t46, cm, gm0, gm1, hlm, hun, hh, hs, hz0], by simp -implicitDefEqProofs (disch := constructor; omega) [lenw, lenp, t0, t1, t2, t9, t10, t14, t15, t16, t38, t39, t40, t44, t45, t46, cm, gm0, gm1, hlm, hun, hh, hs, hz0], by simp -implicitDefEqProofs (disch := constructor; omega) [lenw, lenp, t0, t1, t2, t9, t10, t14, t15, t16, t38, t39, t40, t44, t45, t46, cm, gm0, gm1, hlm, hun, hh, hs, hz0], by simp -implicitDefEqProofs (disch := constructor; omega) [lenw, lenp, t0, t1, t2, t9, t10, t14, t15, t16, t38, t39, t40, t44, t45, t46, cm, gm0, gm1, hlm, hun, hh, hs, hz0], by simp -implicitDefEqProofs (disch := constructor; omega) [lenw, lenp, t0, t1, t2, t9, t10, t14, t15, t16, t38, t39, t40, t44, t45, t46, cm, gm0, gm1, hlm, hun, hh, hs, hz0], by simp -implicitDefEqProofs (disch := constructor; omega) [lenw, lenp, t0, t1, t2, t9, t10, t14, t15, t16, t38, t39, t40, t44, t45, t46, cm, gm0, gm1, hlm, hun, hh, hs, hz0], by simp -implicitDefEqProofs (disch := constructor; omega) [lenw, lenp, t0, t1, t2, t9, t10, t14, t15, t16, t38, t39, t40, t44, t45, t46, cm, gm0, gm1, hlm, hun, hh, hs, hz0]⟩ (by (try dsimp only [keepOnly_eq]); omega)
              | true =>
                rw [hh, hs, if_neg (by simp), ← hz] at hz0
                refine s16_55 ?_
                refine s16_56 ?_
                simp -implicitDefEqProofs (disch := constructor; omega) [↓h16_57, ↓w16_57_1, ↓h16_57_1g, ↓h16_57_2, lenw, lenp, t0, t1, t2, t9, t10, t14, t15, t16, t38, t39, t40, t44, t45, t46, cm, gm0, gm1, hlm, hun, hh, hs, hz0]
                refine s16_58 ?_
                simp -implicitDefEqProofs (disch := constructor; omega) [lenw, lenp, t0, t1, t2, t9, t10, t14, t15, t16, t38, t39, t40, t44, t45, t46, cm, gm0, gm1, hlm, hun, hh, hs, hz0]
                exact fin _ _ _ (fun s1 h => by simp -implicitDefEqProofs (disch := constructor; omega) [lenw, lenp, t0, t1, t2, t9, t10, t14, t15, t16, t38, t39, t40, t44, t45, t46, cm, gm0, gm1, hlm, hun, hh, hs, hz0]; exact h) ⟨by simp -implicitDefEqProofs (disch := constructor; omega) [lenw, lenp, t0, t1, t2, t9, t10, t14, t15, t16, t38, t39, t40, t44, t45, t46, cm, gm0, gm1, hlm, hun, hh, hs, hz0], by simp -implicitDefEqProofs (disch := constructor; omega) [lenw, lenp, t0, t1, t2, t9, t10, t14, t15, t16, t38, t39, t40, t44, t45, t46, cm, gm0, gm1, hlm, hun, hh, hs, hz0], by simp -implicitDefEqProofs (disch := constructor; omega) [lenw, lenp, t0, t1, t2, t9, t10, t14, t15, t16, t38, t39, t40, t44, t45, t46, cm, gm0, gm1, hlm, hun, hh, hs, hz0], by simp -implicitDefEqProofs (disch := constructor; omega) [lenw, lenp, t0, t1, t2, t9, t10, t14, t15, t16, t38, t39, t40, t44, t45, t46, cm, gm0, gm1, hlm, hun, hh, hs, hz0], by simp -implicitDefEqProofs (disch := constructor; omega) [lenw, lenp, t0, t1, t2, t9, t10, t14, t15, t16, t38, t39, t40, t44, t45, t46, cm, gm0, gm1, hlm, hun, hh, hs, hz0], by simp -implicitDefEqProofs (disch := constructor; omega) [lenw, lenp, t0, t1, t2, t9, t10, t14, t15, t16, t38, t39, t40, t44, t45, t46, cm, gm0, gm1, hlm, hun, hh, hs, hz0], by simp -implicitDefEqProofs (disch := constructor; omega) [lenw, lenp, t0, t1, t2, t9, t10, t14, t15, t16, t38, t39, t40, t44, t45, t46, cm, gm0, gm1, hlm, hun, hh, hs, hz0], by simp -implicitDefEqProofs (disch := constructor; omega) [lenw, lenp, t0, t1, t2, t9, t10, t14, t15, t16, t38, t39, t40, t44, t45, t46, cm, gm0, gm1, hlm, hun, hh, hs, hz0], by simp -implicitDefEqProofs (disch := constructor; omega) [lenw, lenp, t0, t1, t2, t9, t10, t14, t15, t16, t38, t39, t40, t44, t45, t46, cm, gm0, gm1, hlm, hun, hh, hs, hz0], by simp -implicitDefEqProofs (disch := constructor; omega) [lenw, lenp, t0, t1, t2, t9, t10, t14, t15, t16, t38, t39, t40, t44, t45, t46, cm, gm0, gm1, hlm, hun, hh, hs, hz0]⟩ (by (try dsimp only [keepOnly_eq]); omega)
      · rename_i hi
        have hir : i = r.length := by omega
        subst hir
        have PQ := P.fin V S hr
        refine hE 0 _ ?_
        (try simp -implicitDefEqProofs (disch := constructor; omega) [lenm, lenw, lenp, t0, t1, t2, t9, t10, t38, t39, t40])
        refine s16_62 ?_
        simp -implicitDefEqProofs (disch := constructor; omega) [↓h16_63, lenm, lenw, lenp, t0, t1, t2, t9, t10, t38, t39, t40]
        refine hQ _ _ _ (.inr rfl) (by simp only [resc, resv, List.mapM_cons, List.mapM_nil, a16]; simp -implicitDefEqProofs (disch := constructor; omega) [lenm, lenw, lenp, t0, t1, t2, t9, t10, t38, t39, t40]; rfl) ⟨.inr ⟨.slice q0 0 m.length, .slice q1 0 w.length, b, a, kp, V, PQ, rfl, gZ_view (Eq.trans (b := s.h.o q0) (by simp -implicitDefEqProofs (disch := constructor; omega) [lenm, lenw, lenp, t0, t1, t2, t9, t10, t38, t39, t40]) o0) (by (try dsimp only [keepOnly_eq]); omega), gB_view (Eq.trans (b := s.h.o q1) (by simp -implicitDefEqProofs (disch := constructor; omega) [lenm, lenw, lenp, t0, t1, t2, t9, t10, t38, t39, t40]) o1) (by (try dsimp only [keepOnly_eq]); omega)⟩, (by (try dsimp only [keepOnly_eq]); omega), fun i hi => ?_⟩
        exact ho i hi
end Go.Proofs.Ythoicdnlcnppgaa.Fn
