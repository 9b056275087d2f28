/- Contracts: propagate. Conditions: none. -/
import Derived.Test.YthoicdnlcnppgaaD8
set_option linter.unusedVariables false
set_option linter.unusedSimpArgs false
namespace Go.Proofs.Ythoicdnlcnppgaa.Fn
open Go Go.Am
set_option maxRecDepth 100000
set_option maxHeartbeats 1000000
def gZ (n : Nat) (f : Int → Int) : List Cell := (List.range n).map fun v : Nat => Cell.int .i64 (f v)
def gB (n : Nat) (f : Int → Bool) : List Cell := (List.range n).map fun v : Nat => Cell.bool (f v)
theorem gZ_len {n f} : (gZ n f).length = n := by simp [gZ]
theorem gB_len {n f} : (gB n f).length = n := by simp [gB]
theorem gZ_get {n : Nat} {f : Int → Int} {v : Nat} (h : v < n) : (gZ n f)[v]? = some (.int .i64 (f v)) := by simp [gZ, h]
theorem gB_get {n : Nat} {f : Int → Bool} {v : Nat} (h : v < n) : (gB n f)[v]? = some (.bool (f v)) := by simp [gB, h]
theorem gZ_set {n : Nat} {f : Int → Int} {v : Nat} (h : v < n) (c : Int) : (gZ n f).set v (.int .i64 c) = gZ n (updZ f v c) := by
  apply List.ext_getElem
  · simp [gZ]
  · intro i h1 h2
    simp only [gZ, List.getElem_set, List.getElem_map, List.getElem_range, updZ]
    by_cases e : v = i
    · simp [e]
    · rw [if_neg e, if_neg (by omega)]
theorem gB_set {n : Nat} {f : Int → Bool} {v : Nat} (h : v < n) (c : Bool) : (gB n f).set v (.bool c) = gB n (updZ f v c) := by
  apply List.ext_getElem
  · simp [gB]
  · intro i h1 h2
    simp only [gB, List.getElem_set, List.getElem_map, List.getElem_range, updZ]
    by_cases e : v = i
    · simp [e]
    · rw [if_neg e, if_neg (by omega)]
theorem gZ_zero {n : Nat} : reps [Cell.int .i64 0] n = gZ n (fun _ => 0) := by
  rw [gI_zero]; rfl
theorem gB_zero : ∀ {n : Nat}, reps [Cell.bool false] n = gB n (fun _ => false) := by
  intro n
  have h := reps_rows enB false n
  rw [show enB false = [Cell.bool false] from rfl] at h
  have e : (List.replicate n false).flatMap enB = List.replicate n (Cell.bool false) := by
    clear h
    induction n with
    | zero => rfl
    | succ n ih => rw [List.replicate_succ, List.flatMap_cons, ih]; rfl
  rw [h, e]
  apply List.ext_getElem
  · simp [gB]
  · intro i h1 h2; simp [gB]
theorem gZ_rows {n : Nat} {f : Int → Int} : gZ n f = ((List.range n).map fun v : Nat => f v).flatMap enI := by
  induction n with
  | zero => rfl
  | succ n ih =>
    unfold gZ at ih ⊢
    rw [List.range_succ, List.map_append, List.map_append, List.flatMap_append, ← ih]; rfl
theorem gB_rows {n : Nat} {f : Int → Bool} : gB n f = ((List.range n).map fun v : Nat => f v).flatMap enB := by
  induction n with
  | zero => rfl
  | succ n ih =>
    unfold gB at ih ⊢
    rw [List.range_succ, List.map_append, List.map_append, List.flatMap_append, ← ih]; rfl
theorem killB {o : Nat → Option AObj} {n q b i : Nat} {B C : Option AObj} (h0 : n ≤ b) (h1 : i < n) (h2 : i ≠ q) (h3 : i < q ∨ notFam q (o i)) : upd (killBut q q (upd o b B)) q C i = o i := by
  have e : upd o b B i = o i := updO_ne _ _ _ _ ⟨by omega⟩
  rw [updO_ne _ _ _ _ ⟨h2⟩]
  rcases h3 with h3 | h3
  · rw [killBut_old (by omega), e]
  · rw [killBut_not (by rw [e]; exact h3), e]
theorem kpE {m : List Mom} {w : List Wt} {a : Int → Int} {kp kp' : Int → Bool} {k : Nat} {u : Int} {x : Wt} (hkp : ∀ k' (hk : k' < w.length), kp' k' = if k' < k ∧ w[k'].t = u then kpS m a w[k'] else kp k') (hk : k < w.length) (hx : x = w[k]) (hu : x.t = u)
    (k' : Nat) (hk' : k' < w.length) : updZ kp' k (kpS m a x) k' = if k' < k + 1 ∧ w[k'].t = u then kpS m a w[k'] else kp k' := by
  unfold updZ
  by_cases e : k' = k
  · subst e
    rw [if_pos rfl, if_pos ⟨by omega, by rw [← hx]; exact hu⟩, hx]
  · rw [if_neg (by omega), hkp k' hk']
    by_cases e3 : k' < k
    · by_cases e2 : w[k'].t = u
      · rw [if_pos ⟨e3, e2⟩, if_pos ⟨by omega, e2⟩]
      · rw [if_neg (fun h => e2 h.2), if_neg (fun h => e2 h.2)]
    · rw [if_neg (fun h => e3 h.1), if_neg (fun h => e3 (by omega))]
theorem killC {o : Nat → Option AObj} {p q i : Nat} {B C : Option AObj} (h1 : i ≠ p) (h2 : i ≠ q) (h3 : i < p ∨ notFam p (o i)) (h4 : i < q ∨ notFam q (o i)) : upd (killBut q q (upd (killBut p p o) p B)) q C i = o i := by
  have e : upd (killBut p p o) p B i = o i := by
    rw [updO_ne _ _ _ _ ⟨h1⟩]
    rcases h3 with h3 | h3
    · rw [killBut_old (by omega)]
    · rw [killBut_not h3]
  rw [updO_ne _ _ _ _ ⟨h2⟩]
  rcases h4 with h4 | h4
  · rw [killBut_old (by omega), e]
  · rw [killBut_not (by rw [e]; exact h4), e]
theorem updZ_updZ {α : Type} {f : Int → α} {i : Int} {x y : α} : updZ (updZ f i x) i y = updZ f i y := by
  funext v; unfold updZ; split <;> rfl
theorem priS_step {p : List Pr} {k : Nat} {u : Int} (hk : k < p.length) : priS (p.take (k + 1)) u = priS (p.take k) u + (if p[k].m = u then p[k].s else 0) := by
  unfold priS
  rw [List.take_succ_eq_append_getElem hk, List.filter_append, List.map_append, List.sum_append]
  by_cases e : p[k].m = u <;> simp [e]
theorem k28 (xm xw xp : Cell) (m : List Mom) (w : List Wt) (p : List Pr) (h : AH) (vm : View h.o h.nx xm enM m) (vw : View h.o h.nx xw enW w) (vp : View h.o h.nx xp enPr p) (V : Valid m w p) :
    wF fs out 28 [.v (.one xm), .v (.one xw), .v (.one xp)] h fun res h' => ∃ q0 q1 q2 b a kp, res = .v (.agg [.slice q0 0 m.length, .slice q1 0 m.length, .slice q2 0 w.length]) ∧ PropQ m w p b a kp ∧ h.nx ≤ q0 ∧ q0 < q1 ∧ q1 < q2 ∧ q2 < h'.nx ∧
      h'.o q0 = some (.cells q0 false 3 1 (gZ m.length b)) ∧ h'.o q1 = some (.cells q1 false 3 1 (gZ m.length a)) ∧ h'.o q2 = some (.cells q2 false 4 1 (gB w.length kp)) ∧ h.le h' := by
  refine wF_fn fs28 rfl fun Q hQ => ?_
  have lenm := vm.lenV (fs := fs) (out := out)
  have lenw := vw.lenV (fs := fs) (out := out)
  have lenp := vp.lenV (fs := fs) (out := out)
  have hml := V.ml
  have hwl := V.wl
  have hpl := V.pl
  have hb1 : (m.length : Int) * 8 ≤ 140737488355328 := by omega
  have hb2 : (m.length : Int) ≤ 9223372036854775807 := by omega
  have hb3 : (w.length : Int) ≤ 140737488355328 := by omega
  have hb4 : (w.length : Int) ≤ 9223372036854775807 := by omega
  have hb5 : m.length * 8 ≤ 140737488355328 := by omega
  have hb6 : m.length ≤ 9223372036854775807 := by omega
  have hb7 : w.length ≤ 140737488355328 := by omega
  have hb8 : w.length ≤ 9223372036854775807 := by omega
  refine s28_0 ?_
  simp -implicitDefEqProofs (disch := constructor; omega) [↓h28_1, lenm, lenw, lenp, hb1, hb2, hb3, hb4, hb5, hb6, hb7, hb8, gZ_zero, gB_zero]
  refine s28_2 ?_
  simp -implicitDefEqProofs (disch := constructor; omega) [↓h28_3, ↓h28_3_1, lenm, lenw, lenp, hb1, hb2, hb3, hb4, hb5, hb6, hb7, hb8, gZ_zero, gB_zero]
  refine s28_4 ?_
  simp -implicitDefEqProofs (disch := constructor; omega) [↓h28_5, ↓h28_5_1, lenm, lenw, lenp, hb1, hb2, hb3, hb4, hb5, hb6, hb7, hb8, gZ_zero, gB_zero]
  obtain ⟨c, hc⟩ : ∃ c, c = h.nx := ⟨_, rfl⟩
  obtain ⟨q0, hq0⟩ : ∃ q, q = h.nx + 1 + 2 := ⟨_, rfl⟩
  obtain ⟨q1, hq1⟩ : ∃ q, q = h.nx + 1 + 5 := ⟨_, rfl⟩
  obtain ⟨q2, hq2⟩ : ∃ q, q = h.nx + 1 + 8 := ⟨_, rfl⟩
  obtain ⟨q3, hq3⟩ : ∃ q, q = h.nx + 1 + 10 := ⟨_, rfl⟩
  refine wF_mono (k32 m.length xw w _ (vw.keep (by simp -implicitDefEqProofs (disch := constructor; omega) [lenm, lenw, lenp, hb1, hb2, hb3, hb4, hb5, hb6, hb7, hb8, gZ_zero, gB_zero] <;> omega) fun i hi => by simp -implicitDefEqProofs (disch := constructor; omega) [lenm, lenw, lenp, hb1, hb2, hb3, hb4, hb5, hb6, hb7, hb8, gZ_zero, gB_zero]) (by omega) (by omega) (fun x hx => (V.ww x hx).1)) ?_
  rintro _ h1 ⟨y, r, fo, rfl, S, O, hn1, ho1⟩
  (try dsimp only at hn1 ho1 O)
  have hr : r.length = m.length := by
    obtain ⟨r', hS, hr'⟩ := V.s
    rw [S.len_eq hS, hr']
  have leny := O.view.lenV (fs := fs) (out := out)
  obtain ⟨lo, hlo⟩ : ∃ q, q = h.nx + 1 + 12 + 9 := ⟨_, rfl⟩
  rw [← hlo] at O hn1 ho1
  have oc : h1.o c = some (.cells c false 58 0 [.nils, .nils, .nils]) := by rw [ho1 _ (by omega), hc]; simp -implicitDefEqProofs (disch := constructor; omega) [lenm, lenw, lenp, hb1, hb2, hb3, hb4, hb5, hb6, hb7, hb8, gZ_zero, gB_zero]
  have o0 : h1.o q0 = some (.cells q0 false 3 1 (gZ m.length fun _ => 0)) := by rw [ho1 _ (by omega), hq0]; simp -implicitDefEqProofs (disch := constructor; omega) [lenm, lenw, lenp, hb1, hb2, hb3, hb4, hb5, hb6, hb7, hb8, gZ_zero, gB_zero]
  have o1 : h1.o q1 = some (.cells q1 false 3 1 (gZ m.length fun _ => 0)) := by rw [ho1 _ (by omega), hq1]; simp -implicitDefEqProofs (disch := constructor; omega) [lenm, lenw, lenp, hb1, hb2, hb3, hb4, hb5, hb6, hb7, hb8, gZ_zero, gB_zero]
  have o2 : h1.o q2 = some (.cells q2 false 4 1 (gB w.length fun _ => false)) := by rw [ho1 _ (by omega), hq2]; simp -implicitDefEqProofs (disch := constructor; omega) [lenm, lenw, lenp, hb1, hb2, hb3, hb4, hb5, hb6, hb7, hb8, gZ_zero, gB_zero]
  have o3 : h1.o q3 = some (.cells q3 false 58 0 [.slice q0 0 m.length, .slice q1 0 m.length, .slice q2 0 w.length]) := by rw [ho1 _ (by omega), hq3, hq0, hq1, hq2]; simp -implicitDefEqProofs (disch := constructor; omega) [lenm, lenw, lenp, hb1, hb2, hb3, hb4, hb5, hb6, hb7, hb8, gZ_zero, gB_zero]
  have low1 : ∀ i, i < h.nx → h1.o i = h.o i := fun i hi => by rw [ho1 _ (by omega)]; simp -implicitDefEqProofs (disch := constructor; omega) [lenm, lenw, lenp, hb1, hb2, hb3, hb4, hb5, hb6, hb7, hb8, gZ_zero, gB_zero]
  (try simp -implicitDefEqProofs (disch := constructor; omega) [↓h28_5, ↓h28_5_1, lenm, lenw, lenp, leny])
  refine s28_6 ?_
  refine s28_7 ?_
  simp -implicitDefEqProofs (disch := constructor; omega) [↓h28_8, lenm, lenw, lenp, leny]
  refine s28_9 ?_
  have hfo : y = .nils ∨ lo ≤ fo := by
    rcases O with h | ⟨_, _, _, h, _⟩
    · exact .inl h.1
    · exact .inr h
  refine s28_10 (fun k s => ∃ (i : Nat) (b a : Int → Int) (kp : Int → Bool), i + k = r.length ∧ s.t 0 = .v (.one xm) ∧ s.t 1 = .v (.one xw) ∧ s.t 2 = .v (.one xp) ∧ s.t 6 = .v (.one (.ptr c 0)) ∧ s.t 7 = .v (.one (.ptr q3 0)) ∧ s.t 36 = .v (.one y) ∧ s.t 37 = .v (.one (.int .i64 r.length)) ∧ s.t 38 = .v (.one (.int .i64 i)) ∧
    s.h.o c = some (.cells c false 58 0 [.nils, .nils, .nils]) ∧ s.h.o q0 = some (.cells q0 false 3 1 (gZ m.length b)) ∧ s.h.o q1 = some (.cells q1 false 3 1 (gZ m.length a)) ∧ s.h.o q2 = some (.cells q2 false 4 1 (gB w.length kp)) ∧
    s.h.o q3 = some (.cells q3 false 58 0 [.slice q0 0 m.length, .slice q1 0 m.length, .slice q2 0 w.length]) ∧ Own s.h.o lo s.h.nx y 3 1 enI r fo ∧ lo ≤ s.h.nx ∧ PrI m w p r i b a kp ∧ ∀ i, i < h.nx → s.h.o i = h.o i) r.length ?_ ?_
  · exact ⟨0, fun _ => 0, fun _ => 0, fun _ => false, by omega, by simp -implicitDefEqProofs (disch := constructor; omega) [lenm, lenw, lenp, leny], by simp -implicitDefEqProofs (disch := constructor; omega) [lenm, lenw, lenp, leny], by simp -implicitDefEqProofs (disch := constructor; omega) [lenm, lenw, lenp, leny], by simp -implicitDefEqProofs (disch := constructor; omega) [lenm, lenw, lenp, leny, hc], by simp -implicitDefEqProofs (disch := constructor; omega) [lenm, lenw, lenp, leny, hq3], by simp -implicitDefEqProofs (disch := constructor; omega) [lenm, lenw, lenp, leny], by simp -implicitDefEqProofs (disch := constructor; omega) [lenm, lenw, lenp, leny], by simp -implicitDefEqProofs (disch := constructor; omega) [lenm, lenw, lenp, leny], oc, o0, o1, o2, o3, O.keep' (by (try dsimp only [keepOnly_eq]); omega) fun _ _ => rfl, (by (try dsimp only [keepOnly_eq]); omega), PrI.start, low1⟩
  · clear oc o0 o1 o2 o3 O low1 ho1 hn1 leny
    rintro k' s Q2 ⟨i, b, a, kp, hk, t0, t1, t2, t6, t7, t36, t37, t38, oc, o0, o1, o2, o3, O, hn, P, ho⟩ hN hE hR
    refine s28_11 ?_
    simp -implicitDefEqProofs (disch := constructor; omega) [↓h28_12, lenm, lenw, lenp, t0, t1, t2, t6, t7, t36, t37, t38]
    refine s28_13 ?_
    simp -implicitDefEqProofs (disch := constructor; omega) [lenm, lenw, lenp, t0, t1, t2, t6, t7, t36, t37, t38]
    split
    · rename_i hi
      obtain ⟨jy, fy, roy, ey, wy, csy, rfl, hjy, hcy, hly, hgy⟩ := O.view.get1 (g := (Cell.int .i64 ·)) (fun _ => rfl) (i := i) hi
      have hrg := S.rg _ (List.getElem_mem hi)
      obtain ⟨u, hu⟩ : ∃ u : Nat, r[i] = u := ⟨r[i].toNat, by omega⟩
      have hun : u < m.length := by omega
      rw [hu] at hgy
      obtain ⟨jm, fm, rom, em, wm, csm, rfl, hjm, hcm, hlm, hgm1, hgm2, hgm3⟩ := vm.get enM_len hun
      have hcm' := (ho jm hjm).trans hcm
      have gm0 : csm[u * 2]? = some (.int .i64 m[u].t) := hgm3 0 (by omega)
      have gm1 : csm[u * 2 + 1]? = some (.bool m[u].hold) := hgm3 1 (by omega)
      have hms : momS m u = m[u] := by simp [momS, hun]
      have w1 := wrap64 (show -9223372036854775808 ≤ (i : Int) + 1 by omega) (by omega)
      refine s28_15 ?_
      refine s28_16 ?_
      refine s28_17 ?_
      simp -implicitDefEqProofs (disch := constructor; omega) [↓h28_18, lenw, lenp, t0, t1, t2, t6, t7, t36, t37, t38, hi, hgy, hcy, hly, hun, hcm', gm0, gm1, w1]
      refine s28_19 ?_
      simp -implicitDefEqProofs (disch := constructor; omega) [↓h28_20, ↓h28_20_1, lenw, lenp, t0, t1, t2, t6, t7, t36, t37, t38, hi, hgy, hcy, hly, hun, hcm', gm0, gm1, w1]
      refine s28_21 ?_
      refine s28_22 ?_
      simp -implicitDefEqProofs (disch := constructor; omega) [↓h28_23, lenw, lenp, t0, t1, t2, t6, t7, t36, t37, t38, hi, hgy, hcy, hly, hun, hcm', gm0, gm1, w1]
      refine s28_24 ?_
      have fold1 : ∀ k (hk : k < w.length), foldB m a u (w.take (k + 1)) = stB m a u (foldB m a u (w.take k)) w[k] := fun k hk => by
        unfold foldB
        rw [List.take_succ_eq_append_getElem hk, List.foldl_append]; rfl
      refine s28_25 (fun z s => ∃ (k : Nat) (kp' : Int → Bool), k + z = w.length ∧ s.t 0 = .v (.one (.slice jm 0 m.length)) ∧ s.t 1 = .v (.one xw) ∧ s.t 2 = .v (.one xp) ∧ s.t 6 = .v (.one (.ptr c 0)) ∧ s.t 7 = .v (.one (.ptr q3 0)) ∧ s.t 11 = .v (.one (.int .i64 u)) ∧
        s.t 12 = .v (.one (.int .i64 (foldB m a u (w.take k)).1)) ∧ s.t 13 = .v (.one (.bool (foldB m a u (w.take k)).2)) ∧ s.t 36 = .v (.one (.slice jy 0 r.length)) ∧ s.t 37 = .v (.one (.int .i64 r.length)) ∧ s.t 38 = .v (.one (.int .i64 i)) ∧
        s.t 52 = .v (.one xw) ∧ s.t 53 = .v (.one (.int .i64 w.length)) ∧ s.t 54 = .v (.one (.int .i64 k)) ∧
        s.h.o c = some (.cells c false 58 0 [.nils, .nils, .nils]) ∧ s.h.o q0 = some (.cells q0 false 3 1 (gZ m.length b)) ∧ s.h.o q1 = some (.cells q1 false 3 1 (gZ m.length a)) ∧ s.h.o q2 = some (.cells q2 false 4 1 (gB w.length kp')) ∧
        s.h.o q3 = some (.cells q3 false 58 0 [.slice q0 0 m.length, .slice q1 0 m.length, .slice q2 0 w.length]) ∧ Own s.h.o lo s.h.nx (.slice jy 0 r.length) 3 1 enI r fo ∧ lo ≤ s.h.nx ∧
        (∀ k' (hk : k' < w.length), kp' k' = if k' < k ∧ w[k'].t = u then kpS m a w[k'] else kp k') ∧ ∀ i, i < h.nx → s.h.o i = h.o i) w.length ?_ ?_
      · refine ⟨0, kp, by omega, by simp -implicitDefEqProofs (disch := constructor; omega) [lenw, lenp, t0, t1, t2, t6, t7, t36, t37, t38, hi, hgy, hcy, hly, hun, hcm', gm0, gm1, w1], by simp -implicitDefEqProofs (disch := constructor; omega) [lenw, lenp, t0, t1, t2, t6, t7, t36, t37, t38, hi, hgy, hcy, hly, hun, hcm', gm0, gm1, w1], by simp -implicitDefEqProofs (disch := constructor; omega) [lenw, lenp, t0, t1, t2, t6, t7, t36, t37, t38, hi, hgy, hcy, hly, hun, hcm', gm0, gm1, w1], by simp -implicitDefEqProofs (disch := constructor; omega) [lenw, lenp, t0, t1, t2, t6, t7, t36, t37, t38, hi, hgy, hcy, hly, hun, hcm', gm0, gm1, w1], by simp -implicitDefEqProofs (disch := constructor; omega) [lenw, lenp, t0, t1, t2, t6, t7, t36, t37, t38, hi, hgy, hcy, hly, hun, hcm', gm0, gm1, w1], by simp -implicitDefEqProofs (disch := constructor; omega) [lenw, lenp, t0, t1, t2, t6, t7, t36, t37, t38, hi, hgy, hcy, hly, hun, hcm', gm0, gm1, w1], by simp -implicitDefEqProofs (disch := constructor; omega) [lenw, lenp, t0, t1, t2, t6, t7, t36, t37, t38, hi, hgy, hcy, hly, hun, hcm', gm0, gm1, w1, foldB, hms], by simp -implicitDefEqProofs (disch := constructor; omega) [lenw, lenp, t0, t1, t2, t6, t7, t36, t37, t38, hi, hgy, hcy, hly, hun, hcm', gm0, gm1, w1, foldB, hms], by simp -implicitDefEqProofs (disch := constructor; omega) [lenw, lenp, t0, t1, t2, t6, t7, t36, t37, t38, hi, hgy, hcy, hly, hun, hcm', gm0, gm1, w1], by simp -implicitDefEqProofs (disch := constructor; omega) [lenw, lenp, t0, t1, t2, t6, t7, t36, t37, t38, hi, hgy, hcy, hly, hun, hcm', gm0, gm1, w1], by simp -implicitDefEqProofs (disch := constructor; omega) [lenw, lenp, t0, t1, t2, t6, t7, t36, t37, t38, hi, hgy, hcy, hly, hun, hcm', gm0, gm1, w1], by simp -implicitDefEqProofs (disch := constructor; omega) [lenw, lenp, t0, t1, t2, t6, t7, t36, t37, t38, hi, hgy, hcy, hly, hun, hcm', gm0, gm1, w1], by simp -implicitDefEqProofs (disch := constructor; omega) [lenw, lenp, t0, t1, t2, t6, t7, t36, t37, t38, hi, hgy, hcy, hly, hun, hcm', gm0, gm1, w1], by simp -implicitDefEqProofs (disch := constructor; omega) [lenw, lenp, t0, t1, t2, t6, t7, t36, t37, t38, hi, hgy, hcy, hly, hun, hcm', gm0, gm1, w1], oc, o0, o1, o2, o3, O.keep' (by (try dsimp only [keepOnly_eq]); omega) fun _ _ => rfl, (by (try dsimp only [keepOnly_eq]); omega), fun k' hk' => by simp, ho⟩
      · clear oc o0 o1 o2 o3 O hn hgy hcy hly ho t0 t1 t2 t6 t7 t36 t37 t38 hcm'
        rintro z s Q3 ⟨k, kp', hz, t0, t1, t2, t6, t7, t11, t12, t13, t36, t37, t38, t52, t53, t54, oc, o0, o1, o2, o3, O, hn, hkp, ho⟩ hN' hE' hR'
        refine s28_26 ?_
        simp -implicitDefEqProofs (disch := constructor; omega) [↓h28_27, lenw, lenp, t0, t1, t2, t6, t7, t11, t12, t13, t36, t37, t38, t52, t53, t54]
        refine s28_28 ?_
        simp -implicitDefEqProofs (disch := constructor; omega) [lenw, lenp, t0, t1, t2, t6, t7, t11, t12, t13, t36, t37, t38, t52, t53, t54]
        split
        · rename_i hk2
          obtain ⟨jw, fw, row, ew, ww, csw, rfl, hjw, hcw, hlw, hgw1, hgw2, hgw3⟩ := vw.get enW_len hk2
          have hcw' := (ho jw hjw).trans hcw
          obtain ⟨x, hxe⟩ : ∃ x, x = w[k] := ⟨_, rfl⟩
          rw [← hxe] at hgw1 hgw2 hgw3
          have hmem : x ∈ w := by rw [hxe]; exact List.getElem_mem hk2
          obtain ⟨⟨xf0, xfn, xt0, xtn⟩, xft, xmn, xms⟩ := V.ww x hmem
          have xmn' := within_iff.1 xmn
          obtain ⟨uf, huf⟩ : ∃ n : Nat, x.f = n := ⟨x.f.toNat, by omega⟩
          have hufn : uf < m.length := by omega
          have w2 := wrap64 (show -9223372036854775808 ≤ (k : Int) + 1 by omega) (by omega)
          have hstep := fold1 k hk2
          rw [← hxe] at hstep
          refine s28_30 ?_
          refine s28_31 ?_
          refine s28_32 ?_
          simp -implicitDefEqProofs (disch := constructor; omega) [↓h28_33, lenp, t0, t1, t2, t6, t7, t11, t12, t13, t36, t37, t38, t52, t53, t54, hk2, hcw', hlw, hgw2, enW, w2]
          refine s28_34 ?_
          refine s28_35 ?_
          simp -implicitDefEqProofs (disch := constructor; omega) [↓h28_36, lenp, t0, t1, t2, t6, t7, t11, t12, t13, t36, t37, t38, t52, t53, t54, hk2, hcw', hlw, hgw2, enW, w2]
          refine s28_37 ?_
          simp -implicitDefEqProofs (disch := constructor; omega) [lenp, t0, t1, t2, t6, t7, t11, t12, t13, t36, t37, t38, t52, t53, t54, hk2, hcw', hlw, hgw2, enW, w2]
          by_cases hxt : x.t = u
          · skip
            (try simp -implicitDefEqProofs (disch := constructor; omega) [lenp, t0, t1, t2, t6, t7, t11, t12, t13, t36, t37, t38, t52, t53, t54, hk2, hcw', hlw, hgw2, enW, w2, hxt])
            have bdf := P.bd uf
            have hidx : i ≤ 64 := by omega
            have w3 := wrap64 (show -9223372036854775808 ≤ a uf + x.mn by omega) (by omega)
            have ga := gZ_get (f := a) hufn
            have hms2 : momS m x.t = m[u] := by rw [hxt]; exact hms
            have mt := momS_ok V.mm u
            rw [hms] at mt
            have xms' : -1 ≤ x.ms ∧ x.ms ≤ 4194304 := by
              rcases xms with h | h
              · omega
              · have := within_iff.1 h; omega
            have w4 := wrap64 (show -9223372036854775808 ≤ m[u].t + x.ms by omega) (by omega)
            have hcm' := (ho jm hjm).trans hcm
            have gB2 : ∀ b, (gB w.length kp').set k (.bool b) = gB w.length (updZ kp' k b) := fun b => gB_set hk2 b
            have gB3 : ∀ b, (gB w.length (updZ kp' k b))[k]? = some (.bool b) := fun b => by rw [gB_get hk2]; simp [updZ]
            have hkpx : kpS m a x = decide (x.ms = -1 ∨ a uf + x.mn ≤ m[u].t + x.ms) := by unfold kpS; rw [hms2, huf]
            refine s28_38 ?_
            simp -implicitDefEqProofs (disch := constructor; omega) [↓h28_39, lenp, t0, t1, t2, t6, t7, t11, t12, t13, t36, t37, t38, t52, t53, t54, hk2, enW, w2, hxt, huf, hufn, w3, ga, o1, o2, o3, gZ_len, gB_len]
            refine s28_40 ?_
            refine wC_cut (a := c28_42) (b := c28_43) (fun s1 => s1.t 0 = .v (.one (.slice jm 0 m.length)) ∧ s1.t 1 = .v (.one (.slice jw 0 w.length)) ∧ s1.t 2 = .v (.one xp) ∧ s1.t 6 = .v (.one (.ptr c 0)) ∧ s1.t 7 = .v (.one (.ptr q3 0)) ∧ s1.t 11 = .v (.one (.int .i64 u)) ∧ s1.t 12 = .v (.one (.int .i64 (foldB m a u (w.take k)).1)) ∧ s1.t 13 = .v (.one (.bool (foldB m a u (w.take k)).2)) ∧ s1.t 14 = .v (.one (.int .i64 k)) ∧ s1.t 16 = .v (.one (.int .i64 (a uf + x.mn))) ∧ s1.t 36 = .v (.one (.slice jy 0 r.length)) ∧ s1.t 37 = .v (.one (.int .i64 r.length)) ∧ s1.t 38 = .v (.one (.int .i64 i)) ∧ s1.t 52 = .v (.one (.slice jw 0 w.length)) ∧ s1.t 53 = .v (.one (.int .i64 w.length)) ∧ s1.t 54 = .v (.one (.int .i64 k)) ∧ s1.h.o c = some (.cells c false 58 0 [.nils, .nils, .nils]) ∧ s1.h.o q0 = some (.cells q0 false 3 1 (gZ m.length b)) ∧ s1.h.o q1 = some (.cells q1 false 3 1 (gZ m.length a)) ∧ s1.h.o q2 = some (.cells q2 false 4 1 (gB w.length (updZ kp' k (kpS m a x)))) ∧ s1.h.o q3 = some (.cells q3 false 58 0 [.slice q0 0 m.length, .slice q1 0 m.length, .slice q2 0 w.length]) ∧ Own s1.h.o lo s1.h.nx (.slice jy 0 r.length) 3 1 enI r fo ∧ lo ≤ s1.h.nx ∧ ∀ i, i < h.nx → s1.h.o i = h.o i) ?_ ?_
            · intro Q4 hh hX
              by_cases hm1 : x.ms = -1
              · have hkpv : kpS m a x = true := by rw [hkpx]; simp [hm1]
                refine s28_42 ?_
                (try simp -implicitDefEqProofs (disch := constructor; omega) [↓h28_42, ↓w28_42_1, ↓h28_42_1g, ↓h28_42_2, lenp, t0, t1, t2, t6, t7, t11, t12, t13, t36, t37, t38, t52, t53, t54, hk2, enW, w2, hxt, huf, hufn, w3, ga, o1, o2, o3, gZ_len, gB_len, hm1])
                have hfl := hfo.resolve_left (by simp)
                refine hh _ ⟨by simp -implicitDefEqProofs (disch := constructor; omega) [lenp, t0, t1, t2, t6, t7, t11, t12, t13, t36, t37, t38, t52, t53, t54, hk2, enW, w2, hxt, huf, hufn, w3, ga, o1, o2, o3, gZ_len, gB_len], by simp -implicitDefEqProofs (disch := constructor; omega) [lenp, t0, t1, t2, t6, t7, t11, t12, t13, t36, t37, t38, t52, t53, t54, hk2, enW, w2, hxt, huf, hufn, w3, ga, o1, o2, o3, gZ_len, gB_len], by simp -implicitDefEqProofs (disch := constructor; omega) [lenp, t0, t1, t2, t6, t7, t11, t12, t13, t36, t37, t38, t52, t53, t54, hk2, enW, w2, hxt, huf, hufn, w3, ga, o1, o2, o3, gZ_len, gB_len], by simp -implicitDefEqProofs (disch := constructor; omega) [lenp, t0, t1, t2, t6, t7, t11, t12, t13, t36, t37, t38, t52, t53, t54, hk2, enW, w2, hxt, huf, hufn, w3, ga, o1, o2, o3, gZ_len, gB_len], by simp -implicitDefEqProofs (disch := constructor; omega) [lenp, t0, t1, t2, t6, t7, t11, t12, t13, t36, t37, t38, t52, t53, t54, hk2, enW, w2, hxt, huf, hufn, w3, ga, o1, o2, o3, gZ_len, gB_len], by simp -implicitDefEqProofs (disch := constructor; omega) [lenp, t0, t1, t2, t6, t7, t11, t12, t13, t36, t37, t38, t52, t53, t54, hk2, enW, w2, hxt, huf, hufn, w3, ga, o1, o2, o3, gZ_len, gB_len], by simp -implicitDefEqProofs (disch := constructor; omega) [lenp, t0, t1, t2, t6, t7, t11, t12, t13, t36, t37, t38, t52, t53, t54, hk2, enW, w2, hxt, huf, hufn, w3, ga, o1, o2, o3, gZ_len, gB_len], by simp -implicitDefEqProofs (disch := constructor; omega) [lenp, t0, t1, t2, t6, t7, t11, t12, t13, t36, t37, t38, t52, t53, t54, hk2, enW, w2, hxt, huf, hufn, w3, ga, o1, o2, o3, gZ_len, gB_len], by simp -implicitDefEqProofs (disch := constructor; omega) [lenp, t0, t1, t2, t6, t7, t11, t12, t13, t36, t37, t38, t52, t53, t54, hk2, enW, w2, hxt, huf, hufn, w3, ga, o1, o2, o3, gZ_len, gB_len], by simp -implicitDefEqProofs (disch := constructor; omega) [lenp, t0, t1, t2, t6, t7, t11, t12, t13, t36, t37, t38, t52, t53, t54, hk2, enW, w2, hxt, huf, hufn, w3, ga, o1, o2, o3, gZ_len, gB_len], by simp -implicitDefEqProofs (disch := constructor; omega) [lenp, t0, t1, t2, t6, t7, t11, t12, t13, t36, t37, t38, t52, t53, t54, hk2, enW, w2, hxt, huf, hufn, w3, ga, o1, o2, o3, gZ_len, gB_len], by simp -implicitDefEqProofs (disch := constructor; omega) [lenp, t0, t1, t2, t6, t7, t11, t12, t13, t36, t37, t38, t52, t53, t54, hk2, enW, w2, hxt, huf, hufn, w3, ga, o1, o2, o3, gZ_len, gB_len], by simp -implicitDefEqProofs (disch := constructor; omega) [lenp, t0, t1, t2, t6, t7, t11, t12, t13, t36, t37, t38, t52, t53, t54, hk2, enW, w2, hxt, huf, hufn, w3, ga, o1, o2, o3, gZ_len, gB_len], by simp -implicitDefEqProofs (disch := constructor; omega) [lenp, t0, t1, t2, t6, t7, t11, t12, t13, t36, t37, t38, t52, t53, t54, hk2, enW, w2, hxt, huf, hufn, w3, ga, o1, o2, o3, gZ_len, gB_len], by simp -implicitDefEqProofs (disch := constructor; omega) [lenp, t0, t1, t2, t6, t7, t11, t12, t13, t36, t37, t38, t52, t53, t54, hk2, enW, w2, hxt, huf, hufn, w3, ga, o1, o2, o3, gZ_len, gB_len], by simp -implicitDefEqProofs (disch := constructor; omega) [lenp, t0, t1, t2, t6, t7, t11, t12, t13, t36, t37, t38, t52, t53, t54, hk2, enW, w2, hxt, huf, hufn, w3, ga, o1, o2, o3, gZ_len, gB_len], by simp -implicitDefEqProofs (disch := constructor; omega) [lenp, t0, t1, t2, t6, t7, t11, t12, t13, t36, t37, t38, t52, t53, t54, hk2, enW, w2, hxt, huf, hufn, w3, ga, o1, o2, o3, gZ_len, gB_len, oc], by simp -implicitDefEqProofs (disch := constructor; omega) [lenp, t0, t1, t2, t6, t7, t11, t12, t13, t36, t37, t38, t52, t53, t54, hk2, enW, w2, hxt, huf, hufn, w3, ga, o1, o2, o3, gZ_len, gB_len, o0], by simp -implicitDefEqProofs (disch := constructor; omega) [lenp, t0, t1, t2, t6, t7, t11, t12, t13, t36, t37, t38, t52, t53, t54, hk2, enW, w2, hxt, huf, hufn, w3, ga, o1, o2, o3, gZ_len, gB_len], by simp -implicitDefEqProofs (disch := constructor; omega) [lenp, t0, t1, t2, t6, t7, t11, t12, t13, t36, t37, t38, t52, t53, t54, hk2, enW, w2, hxt, huf, hufn, w3, ga, o1, o2, o3, gZ_len, gB_len, hkpv, gB2], (killB (n := s.h.nx) (by omega) (by omega) (by omega) (.inr (by rw [o3]; exact (by omega : q3 ≠ q2)))).trans o3, O.keep (by (try dsimp only [keepOnly_eq]); omega) fun i cs h1 h2 h3 => killB (n := s.h.nx) (by omega) h2 (by omega) (.inr (by rw [h3]; exact (by omega : fo ≠ q2))), (by (try dsimp only [keepOnly_eq]); omega), fun i hi => by simp -implicitDefEqProofs (disch := constructor; omega) [lenp, t0, t1, t2, t6, t7, t11, t12, t13, t36, t37, t38, t52, t53, t54, hk2, enW, w2, hxt, huf, hufn, w3, ga, o1, o2, o3, gZ_len, gB_len]; exact ho i hi⟩
              · have hm2 := eq_false hm1
                have hkpv : kpS m a x = decide (a uf + x.mn ≤ m[u].t + x.ms) := by rw [hkpx]; simp [hm1]
                refine s28_42 ?_
                (try simp -implicitDefEqProofs (disch := constructor; omega) [↓h28_42, ↓w28_42_1, ↓h28_42_1g, ↓h28_42_2, lenp, t0, t1, t2, t6, t7, t11, t12, t13, t36, t37, t38, t52, t53, t54, hk2, enW, w2, hxt, huf, hufn, w3, ga, o1, o2, o3, gZ_len, gB_len, hm2, hcm', gm0, w4, hun])
                have hfl := hfo.resolve_left (by simp)
                refine hh _ ⟨by simp -implicitDefEqProofs (disch := constructor; omega) [lenp, t0, t1, t2, t6, t7, t11, t12, t13, t36, t37, t38, t52, t53, t54, hk2, enW, w2, hxt, huf, hufn, w3, ga, o1, o2, o3, gZ_len, gB_len], by simp -implicitDefEqProofs (disch := constructor; omega) [lenp, t0, t1, t2, t6, t7, t11, t12, t13, t36, t37, t38, t52, t53, t54, hk2, enW, w2, hxt, huf, hufn, w3, ga, o1, o2, o3, gZ_len, gB_len], by simp -implicitDefEqProofs (disch := constructor; omega) [lenp, t0, t1, t2, t6, t7, t11, t12, t13, t36, t37, t38, t52, t53, t54, hk2, enW, w2, hxt, huf, hufn, w3, ga, o1, o2, o3, gZ_len, gB_len], by simp -implicitDefEqProofs (disch := constructor; omega) [lenp, t0, t1, t2, t6, t7, t11, t12, t13, t36, t37, t38, t52, t53, t54, hk2, enW, w2, hxt, huf, hufn, w3, ga, o1, o2, o3, gZ_len, gB_len], by simp -implicitDefEqProofs (disch := constructor; omega) [lenp, t0, t1, t2, t6, t7, t11, t12, t13, t36, t37, t38, t52, t53, t54, hk2, enW, w2, hxt, huf, hufn, w3, ga, o1, o2, o3, gZ_len, gB_len], by simp -implicitDefEqProofs (disch := constructor; omega) [lenp, t0, t1, t2, t6, t7, t11, t12, t13, t36, t37, t38, t52, t53, t54, hk2, enW, w2, hxt, huf, hufn, w3, ga, o1, o2, o3, gZ_len, gB_len], by simp -implicitDefEqProofs (disch := constructor; omega) [lenp, t0, t1, t2, t6, t7, t11, t12, t13, t36, t37, t38, t52, t53, t54, hk2, enW, w2, hxt, huf, hufn, w3, ga, o1, o2, o3, gZ_len, gB_len], by simp -implicitDefEqProofs (disch := constructor; omega) [lenp, t0, t1, t2, t6, t7, t11, t12, t13, t36, t37, t38, t52, t53, t54, hk2, enW, w2, hxt, huf, hufn, w3, ga, o1, o2, o3, gZ_len, gB_len], by simp -implicitDefEqProofs (disch := constructor; omega) [lenp, t0, t1, t2, t6, t7, t11, t12, t13, t36, t37, t38, t52, t53, t54, hk2, enW, w2, hxt, huf, hufn, w3, ga, o1, o2, o3, gZ_len, gB_len], by simp -implicitDefEqProofs (disch := constructor; omega) [lenp, t0, t1, t2, t6, t7, t11, t12, t13, t36, t37, t38, t52, t53, t54, hk2, enW, w2, hxt, huf, hufn, w3, ga, o1, o2, o3, gZ_len, gB_len], by simp -implicitDefEqProofs (disch := constructor; omega) [lenp, t0, t1, t2, t6, t7, t11, t12, t13, t36, t37, t38, t52, t53, t54, hk2, enW, w2, hxt, huf, hufn, w3, ga, o1, o2, o3, gZ_len, gB_len], by simp -implicitDefEqProofs (disch := constructor; omega) [lenp, t0, t1, t2, t6, t7, t11, t12, t13, t36, t37, t38, t52, t53, t54, hk2, enW, w2, hxt, huf, hufn, w3, ga, o1, o2, o3, gZ_len, gB_len], by simp -implicitDefEqProofs (disch := constructor; omega) [lenp, t0, t1, t2, t6, t7, t11, t12, t13, t36, t37, t38, t52, t53, t54, hk2, enW, w2, hxt, huf, hufn, w3, ga, o1, o2, o3, gZ_len, gB_len], by simp -implicitDefEqProofs (disch := constructor; omega) [lenp, t0, t1, t2, t6, t7, t11, t12, t13, t36, t37, t38, t52, t53, t54, hk2, enW, w2, hxt, huf, hufn, w3, ga, o1, o2, o3, gZ_len, gB_len], by simp -implicitDefEqProofs (disch := constructor; omega) [lenp, t0, t1, t2, t6, t7, t11, t12, t13, t36, t37, t38, t52, t53, t54, hk2, enW, w2, hxt, huf, hufn, w3, ga, o1, o2, o3, gZ_len, gB_len], by simp -implicitDefEqProofs (disch := constructor; omega) [lenp, t0, t1, t2, t6, t7, t11, t12, t13, t36, t37, t38, t52, t53, t54, hk2, enW, w2, hxt, huf, hufn, w3, ga, o1, o2, o3, gZ_len, gB_len], by simp -implicitDefEqProofs (disch := constructor; omega) [lenp, t0, t1, t2, t6, t7, t11, t12, t13, t36, t37, t38, t52, t53, t54, hk2, enW, w2, hxt, huf, hufn, w3, ga, o1, o2, o3, gZ_len, gB_len, oc], by simp -implicitDefEqProofs (disch := constructor; omega) [lenp, t0, t1, t2, t6, t7, t11, t12, t13, t36, t37, t38, t52, t53, t54, hk2, enW, w2, hxt, huf, hufn, w3, ga, o1, o2, o3, gZ_len, gB_len, o0], by simp -implicitDefEqProofs (disch := constructor; omega) [lenp, t0, t1, t2, t6, t7, t11, t12, t13, t36, t37, t38, t52, t53, t54, hk2, enW, w2, hxt, huf, hufn, w3, ga, o1, o2, o3, gZ_len, gB_len], by simp -implicitDefEqProofs (disch := constructor; omega) [lenp, t0, t1, t2, t6, t7, t11, t12, t13, t36, t37, t38, t52, t53, t54, hk2, enW, w2, hxt, huf, hufn, w3, ga, o1, o2, o3, gZ_len, gB_len, hkpv, gB2], (killB (n := s.h.nx) (by omega) (by omega) (by omega) (.inr (by rw [o3]; exact (by omega : q3 ≠ q2)))).trans o3, O.keep (by (try dsimp only [keepOnly_eq]); omega) fun i cs h1 h2 h3 => killB (n := s.h.nx) (by omega) h2 (by omega) (.inr (by rw [h3]; exact (by omega : fo ≠ q2))), (by (try dsimp only [keepOnly_eq]); omega), fun i hi => by simp -implicitDefEqProofs (disch := constructor; omega) [lenp, t0, t1, t2, t6, t7, t11, t12, t13, t36, t37, t38, t52, t53, t54, hk2, enW, w2, hxt, huf, hufn, w3, ga, o1, o2, o3, gZ_len, gB_len]; exact ho i hi⟩
            · rintro s1 ⟨t0, t1, t2, t6, t7, t11, t12, t13, t14, t16, t36, t37, t38, t52, t53, t54, oc, o0, o1, o2, o3, O, hn, ho⟩
              have gB4 := gB3 (kpS m a x)
              by_cases hkb : kpS m a x = true
              · have gB5 : (gB w.length (updZ kp' k (kpS m a x)))[k]? = some (.bool true) := gB4.trans (by rw [hkb])
                refine s28_43 ?_
                simp -implicitDefEqProofs (disch := constructor; omega) [↓h28_44, lenp, t0, t1, t2, t6, t7, t11, t12, t13, t14, t16, t36, t37, t38, t52, t53, t54, hk2, w2, o2, o3, gB_len, gB5]
                refine s28_45 ?_
                simp -implicitDefEqProofs (disch := constructor; omega) [lenp, t0, t1, t2, t6, t7, t11, t12, t13, t14, t16, t36, t37, t38, t52, t53, t54, hk2, w2, o2, o3, gB_len, gB5]
                refine s28_46 ?_
                by_cases hbd : (foldB m a u (w.take k)).2 = true
                · by_cases hlt : (foldB m a u (w.take k)).1 < a uf + x.mn
                  · (try simp -implicitDefEqProofs (disch := constructor; omega) [↓h28_47, ↓w28_47_1, ↓h28_47_1g, ↓h28_47_2, lenp, t0, t1, t2, t6, t7, t11, t12, t13, t14, t16, t36, t37, t38, t52, t53, t54, hk2, w2, o2, o3, gB_len, hbd, hlt])
                    have hsame : foldB m a u (w.take (k + 1)) = (a uf + x.mn, true) := by
                      rw [hstep]; unfold stB; rw [if_pos ⟨hxt, hkb, .inr (by rw [huf]; exact hlt)⟩, huf]
                    refine s28_48 ?_
                    simp -implicitDefEqProofs (disch := constructor; omega) [lenp, t0, t1, t2, t6, t7, t11, t12, t13, t14, t16, t36, t37, t38, t52, t53, t54, hk2, w2, o2, o3, gB_len]
                    refine s28_49 ?_
                    simp -implicitDefEqProofs (disch := constructor; omega) [↓h28_49, lenp, t0, t1, t2, t6, t7, t11, t12, t13, t14, t16, t36, t37, t38, t52, t53, t54, hk2, w2, o2, o3, gB_len]
                    refine s28_50 ?_
                    simp -implicitDefEqProofs (disch := constructor; omega) [↓h28_50, lenp, t0, t1, t2, t6, t7, t11, t12, t13, t14, t16, t36, t37, t38, t52, t53, t54, hk2, w2, o2, o3, gB_len]
                    refine hN' (z - 1) _ (by omega) ?_
                    dsimp only [keepOnly_eq]
                    refine ⟨k + 1, updZ kp' k (kpS m a x), by omega, by simp -implicitDefEqProofs (disch := constructor; omega) [lenp, t0, t1, t2, t6, t7, t11, t12, t13, t14, t16, t36, t37, t38, t52, t53, t54, hk2, w2, o2, o3, gB_len], by simp -implicitDefEqProofs (disch := constructor; omega) [lenp, t0, t1, t2, t6, t7, t11, t12, t13, t14, t16, t36, t37, t38, t52, t53, t54, hk2, w2, o2, o3, gB_len], by simp -implicitDefEqProofs (disch := constructor; omega) [lenp, t0, t1, t2, t6, t7, t11, t12, t13, t14, t16, t36, t37, t38, t52, t53, t54, hk2, w2, o2, o3, gB_len], by simp -implicitDefEqProofs (disch := constructor; omega) [lenp, t0, t1, t2, t6, t7, t11, t12, t13, t14, t16, t36, t37, t38, t52, t53, t54, hk2, w2, o2, o3, gB_len], by simp -implicitDefEqProofs (disch := constructor; omega) [lenp, t0, t1, t2, t6, t7, t11, t12, t13, t14, t16, t36, t37, t38, t52, t53, t54, hk2, w2, o2, o3, gB_len], by simp -implicitDefEqProofs (disch := constructor; omega) [lenp, t0, t1, t2, t6, t7, t11, t12, t13, t14, t16, t36, t37, t38, t52, t53, t54, hk2, w2, o2, o3, gB_len], by rw [hsame]; simp -implicitDefEqProofs (disch := constructor; omega) [lenp, t0, t1, t2, t6, t7, t11, t12, t13, t14, t16, t36, t37, t38, t52, t53, t54, hk2, w2, o2, o3, gB_len], by rw [hsame]; simp -implicitDefEqProofs (disch := constructor; omega) [lenp, t0, t1, t2, t6, t7, t11, t12, t13, t14, t16, t36, t37, t38, t52, t53, t54, hk2, w2, o2, o3, gB_len], by simp -implicitDefEqProofs (disch := constructor; omega) [lenp, t0, t1, t2, t6, t7, t11, t12, t13, t14, t16, t36, t37, t38, t52, t53, t54, hk2, w2, o2, o3, gB_len], by simp -implicitDefEqProofs (disch := constructor; omega) [lenp, t0, t1, t2, t6, t7, t11, t12, t13, t14, t16, t36, t37, t38, t52, t53, t54, hk2, w2, o2, o3, gB_len], by simp -implicitDefEqProofs (disch := constructor; omega) [lenp, t0, t1, t2, t6, t7, t11, t12, t13, t14, t16, t36, t37, t38, t52, t53, t54, hk2, w2, o2, o3, gB_len], by simp -implicitDefEqProofs (disch := constructor; omega) [lenp, t0, t1, t2, t6, t7, t11, t12, t13, t14, t16, t36, t37, t38, t52, t53, t54, hk2, w2, o2, o3, gB_len], by simp -implicitDefEqProofs (disch := constructor; omega) [lenp, t0, t1, t2, t6, t7, t11, t12, t13, t14, t16, t36, t37, t38, t52, t53, t54, hk2, w2, o2, o3, gB_len], by simp -implicitDefEqProofs (disch := constructor; omega) [lenp, t0, t1, t2, t6, t7, t11, t12, t13, t14, t16, t36, t37, t38, t52, t53, t54, hk2, w2, o2, o3, gB_len], by simp -implicitDefEqProofs (disch := constructor; omega) [lenp, t0, t1, t2, t6, t7, t11, t12, t13, t14, t16, t36, t37, t38, t52, t53, t54, hk2, w2, o2, o3, gB_len, oc], by simp -implicitDefEqProofs (disch := constructor; omega) [lenp, t0, t1, t2, t6, t7, t11, t12, t13, t14, t16, t36, t37, t38, t52, t53, t54, hk2, w2, o2, o3, gB_len, o0], by simp -implicitDefEqProofs (disch := constructor; omega) [lenp, t0, t1, t2, t6, t7, t11, t12, t13, t14, t16, t36, t37, t38, t52, t53, t54, hk2, w2, o2, o3, gB_len, o1], by simp -implicitDefEqProofs (disch := constructor; omega) [lenp, t0, t1, t2, t6, t7, t11, t12, t13, t14, t16, t36, t37, t38, t52, t53, t54, hk2, w2, o2, o3, gB_len, o2], by simp -implicitDefEqProofs (disch := constructor; omega) [lenp, t0, t1, t2, t6, t7, t11, t12, t13, t14, t16, t36, t37, t38, t52, t53, t54, hk2, w2, o2, o3, gB_len, o3], O.keep' (by (try dsimp only [keepOnly_eq]); omega) fun i hi => rfl, (by (try dsimp only [keepOnly_eq]); omega), fun k' hk' => ?_, fun i hi => ho i hi⟩
                    exact kpE hkp hk2 hxe hxt k' hk'
                  · have hlt2 := eq_false hlt
                    (try simp -implicitDefEqProofs (disch := constructor; omega) [↓h28_47, ↓w28_47_1, ↓h28_47_1g, ↓h28_47_2, lenp, t0, t1, t2, t6, t7, t11, t12, t13, t14, t16, t36, t37, t38, t52, t53, t54, hk2, w2, o2, o3, gB_len, hbd, hlt2])
                    have hsame : foldB m a u (w.take (k + 1)) = foldB m a u (w.take k) := by
                      rw [hstep]; unfold stB; rw [if_neg (fun h => h.2.2.elim (fun h => by rw [hbd] at h; cases h) (fun h => hlt (by rw [← huf]; exact h)))]
                    refine s28_48 ?_
                    simp -implicitDefEqProofs (disch := constructor; omega) [lenp, t0, t1, t2, t6, t7, t11, t12, t13, t14, t16, t36, t37, t38, t52, t53, t54, hk2, w2, o2, o3, gB_len]
                    refine s28_50 ?_
                    simp -implicitDefEqProofs (disch := constructor; omega) [↓h28_50, lenp, t0, t1, t2, t6, t7, t11, t12, t13, t14, t16, t36, t37, t38, t52, t53, t54, hk2, w2, o2, o3, gB_len]
                    refine hN' (z - 1) _ (by omega) ?_
                    dsimp only [keepOnly_eq]
                    refine ⟨k + 1, updZ kp' k (kpS m a x), by omega, by simp -implicitDefEqProofs (disch := constructor; omega) [lenp, t0, t1, t2, t6, t7, t11, t12, t13, t14, t16, t36, t37, t38, t52, t53, t54, hk2, w2, o2, o3, gB_len], by simp -implicitDefEqProofs (disch := constructor; omega) [lenp, t0, t1, t2, t6, t7, t11, t12, t13, t14, t16, t36, t37, t38, t52, t53, t54, hk2, w2, o2, o3, gB_len], by simp -implicitDefEqProofs (disch := constructor; omega) [lenp, t0, t1, t2, t6, t7, t11, t12, t13, t14, t16, t36, t37, t38, t52, t53, t54, hk2, w2, o2, o3, gB_len], by simp -implicitDefEqProofs (disch := constructor; omega) [lenp, t0, t1, t2, t6, t7, t11, t12, t13, t14, t16, t36, t37, t38, t52, t53, t54, hk2, w2, o2, o3, gB_len], by simp -implicitDefEqProofs (disch := constructor; omega) [lenp, t0, t1, t2, t6, t7, t11, t12, t13, t14, t16, t36, t37, t38, t52, t53, t54, hk2, w2, o2, o3, gB_len], by simp -implicitDefEqProofs (disch := constructor; omega) [lenp, t0, t1, t2, t6, t7, t11, t12, t13, t14, t16, t36, t37, t38, t52, t53, t54, hk2, w2, o2, o3, gB_len], by rw [hsame]; simp -implicitDefEqProofs (disch := constructor; omega) [lenp, t0, t1, t2, t6, t7, t11, t12, t13, t14, t16, t36, t37, t38, t52, t53, t54, hk2, w2, o2, o3, gB_len], by rw [hsame]; simp -implicitDefEqProofs (disch := constructor; omega) [lenp, t0, t1, t2, t6, t7, t11, t12, t13, t14, t16, t36, t37, t38, t52, t53, t54, hk2, w2, o2, o3, gB_len, hbd], by simp -implicitDefEqProofs (disch := constructor; omega) [lenp, t0, t1, t2, t6, t7, t11, t12, t13, t14, t16, t36, t37, t38, t52, t53, t54, hk2, w2, o2, o3, gB_len], by simp -implicitDefEqProofs (disch := constructor; omega) [lenp, t0, t1, t2, t6, t7, t11, t12, t13, t14, t16, t36, t37, t38, t52, t53, t54, hk2, w2, o2, o3, gB_len], by simp -implicitDefEqProofs (disch := constructor; omega) [lenp, t0, t1, t2, t6, t7, t11, t12, t13, t14, t16, t36, t37, t38, t52, t53, t54, hk2, w2, o2, o3, gB_len], by simp -implicitDefEqProofs (disch := constructor; omega) [lenp, t0, t1, t2, t6, t7, t11, t12, t13, t14, t16, t36, t37, t38, t52, t53, t54, hk2, w2, o2, o3, gB_len], by simp -implicitDefEqProofs (disch := constructor; omega) [lenp, t0, t1, t2, t6, t7, t11, t12, t13, t14, t16, t36, t37, t38, t52, t53, t54, hk2, w2, o2, o3, gB_len], by simp -implicitDefEqProofs (disch := constructor; omega) [lenp, t0, t1, t2, t6, t7, t11, t12, t13, t14, t16, t36, t37, t38, t52, t53, t54, hk2, w2, o2, o3, gB_len], by simp -implicitDefEqProofs (disch := constructor; omega) [lenp, t0, t1, t2, t6, t7, t11, t12, t13, t14, t16, t36, t37, t38, t52, t53, t54, hk2, w2, o2, o3, gB_len, oc], by simp -implicitDefEqProofs (disch := constructor; omega) [lenp, t0, t1, t2, t6, t7, t11, t12, t13, t14, t16, t36, t37, t38, t52, t53, t54, hk2, w2, o2, o3, gB_len, o0], by simp -implicitDefEqProofs (disch := constructor; omega) [lenp, t0, t1, t2, t6, t7, t11, t12, t13, t14, t16, t36, t37, t38, t52, t53, t54, hk2, w2, o2, o3, gB_len, o1], by simp -implicitDefEqProofs (disch := constructor; omega) [lenp, t0, t1, t2, t6, t7, t11, t12, t13, t14, t16, t36, t37, t38, t52, t53, t54, hk2, w2, o2, o3, gB_len, o2], by simp -implicitDefEqProofs (disch := constructor; omega) [lenp, t0, t1, t2, t6, t7, t11, t12, t13, t14, t16, t36, t37, t38, t52, t53, t54, hk2, w2, o2, o3, gB_len, o3], O.keep' (by (try dsimp only [keepOnly_eq]); omega) fun i hi => rfl, (by (try dsimp only [keepOnly_eq]); omega), fun k' hk' => ?_, fun i hi => ho i hi⟩
                    exact kpE hkp hk2 hxe hxt k' hk'
                · have hbd2 : (foldB m a u (w.take k)).2 = false := by simpa using hbd
                  (try simp -implicitDefEqProofs (disch := constructor; omega) [↓h28_47, ↓w28_47_1, ↓h28_47_1g, ↓h28_47_2, lenp, t0, t1, t2, t6, t7, t11, t12, t13, t14, t16, t36, t37, t38, t52, t53, t54, hk2, w2, o2, o3, gB_len, hbd2])
                  have hsame : foldB m a u (w.take (k + 1)) = (a uf + x.mn, true) := by
                    rw [hstep]; unfold stB; rw [if_pos ⟨hxt, hkb, .inl hbd2⟩, huf]
                  refine s28_48 ?_
                  simp -implicitDefEqProofs (disch := constructor; omega) [lenp, t0, t1, t2, t6, t7, t11, t12, t13, t14, t16, t36, t37, t38, t52, t53, t54, hk2, w2, o2, o3, gB_len]
                  refine s28_49 ?_
                  simp -implicitDefEqProofs (disch := constructor; omega) [↓h28_49, lenp, t0, t1, t2, t6, t7, t11, t12, t13, t14, t16, t36, t37, t38, t52, t53, t54, hk2, w2, o2, o3, gB_len]
                  refine s28_50 ?_
                  simp -implicitDefEqProofs (disch := constructor; omega) [↓h28_50, lenp, t0, t1, t2, t6, t7, t11, t12, t13, t14, t16, t36, t37, t38, t52, t53, t54, hk2, w2, o2, o3, gB_len]
                  refine hN' (z - 1) _ (by omega) ?_
                  dsimp only [keepOnly_eq]
                  refine ⟨k + 1, updZ kp' k (kpS m a x), by omega, by simp -implicitDefEqProofs (disch := constructor; omega) [lenp, t0, t1, t2, t6, t7, t11, t12, t13, t14, t16, t36, t37, t38, t52, t53, t54, hk2, w2, o2, o3, gB_len], by simp -implicitDefEqProofs (disch := constructor; omega) [lenp, t0, t1, t2, t6, t7, t11, t12, t13, t14, t16, t36, t37, t38, t52, t53, t54, hk2, w2, o2, o3, gB_len], by simp -implicitDefEqProofs (disch := constructor; omega) [lenp, t0, t1, t2, t6, t7, t11, t12, t13, t14, t16, t36, t37, t38, t52, t53, t54, hk2, w2, o2, o3, gB_len], by simp -implicitDefEqProofs (disch := constructor; omega) [lenp, t0, t1, t2, t6, t7, t11, t12, t13, t14, t16, t36, t37, t38, t52, t53, t54, hk2, w2, o2, o3, gB_len], by simp -implicitDefEqProofs (disch := constructor; omega) [lenp, t0, t1, t2, t6, t7, t11, t12, t13, t14, t16, t36, t37, t38, t52, t53, t54, hk2, w2, o2, o3, gB_len], by simp -implicitDefEqProofs (disch := constructor; omega) [lenp, t0, t1, t2, t6, t7, t11, t12, t13, t14, t16, t36, t37, t38, t52, t53, t54, hk2, w2, o2, o3, gB_len], by rw [hsame]; simp -implicitDefEqProofs (disch := constructor; omega) [lenp, t0, t1, t2, t6, t7, t11, t12, t13, t14, t16, t36, t37, t38, t52, t53, t54, hk2, w2, o2, o3, gB_len], by rw [hsame]; simp -implicitDefEqProofs (disch := constructor; omega) [lenp, t0, t1, t2, t6, t7, t11, t12, t13, t14, t16, t36, t37, t38, t52, t53, t54, hk2, w2, o2, o3, gB_len], by simp -implicitDefEqProofs (disch := constructor; omega) [lenp, t0, t1, t2, t6, t7, t11, t12, t13, t14, t16, t36, t37, t38, t52, t53, t54, hk2, w2, o2, o3, gB_len], by simp -implicitDefEqProofs (disch := constructor; omega) [lenp, t0, t1, t2, t6, t7, t11, t12, t13, t14, t16, t36, t37, t38, t52, t53, t54, hk2, w2, o2, o3, gB_len], by simp -implicitDefEqProofs (disch := constructor; omega) [lenp, t0, t1, t2, t6, t7, t11, t12, t13, t14, t16, t36, t37, t38, t52, t53, t54, hk2, w2, o2, o3, gB_len], by simp -implicitDefEqProofs (disch := constructor; omega) [lenp, t0, t1, t2, t6, t7, t11, t12, t13, t14, t16, t36, t37, t38, t52, t53, t54, hk2, w2, o2, o3, gB_len], by simp -implicitDefEqProofs (disch := constructor; omega) [lenp, t0, t1, t2, t6, t7, t11, t12, t13, t14, t16, t36, t37, t38, t52, t53, t54, hk2, w2, o2, o3, gB_len], by simp -implicitDefEqProofs (disch := constructor; omega) [lenp, t0, t1, t2, t6, t7, t11, t12, t13, t14, t16, t36, t37, t38, t52, t53, t54, hk2, w2, o2, o3, gB_len], by simp -implicitDefEqProofs (disch := constructor; omega) [lenp, t0, t1, t2, t6, t7, t11, t12, t13, t14, t16, t36, t37, t38, t52, t53, t54, hk2, w2, o2, o3, gB_len, oc], by simp -implicitDefEqProofs (disch := constructor; omega) [lenp, t0, t1, t2, t6, t7, t11, t12, t13, t14, t16, t36, t37, t38, t52, t53, t54, hk2, w2, o2, o3, gB_len, o0], by simp -implicitDefEqProofs (disch := constructor; omega) [lenp, t0, t1, t2, t6, t7, t11, t12, t13, t14, t16, t36, t37, t38, t52, t53, t54, hk2, w2, o2, o3, gB_len, o1], by simp -implicitDefEqProofs (disch := constructor; omega) [lenp, t0, t1, t2, t6, t7, t11, t12, t13, t14, t16, t36, t37, t38, t52, t53, t54, hk2, w2, o2, o3, gB_len, o2], by simp -implicitDefEqProofs (disch := constructor; omega) [lenp, t0, t1, t2, t6, t7, t11, t12, t13, t14, t16, t36, t37, t38, t52, t53, t54, hk2, w2, o2, o3, gB_len, o3], O.keep' (by (try dsimp only [keepOnly_eq]); omega) fun i hi => rfl, (by (try dsimp only [keepOnly_eq]); omega), fun k' hk' => ?_, fun i hi => ho i hi⟩
                  exact kpE hkp hk2 hxe hxt k' hk'
              · have hkf : kpS m a x = false := by simpa using hkb
                have gB5 : (gB w.length (updZ kp' k (kpS m a x)))[k]? = some (.bool false) := gB4.trans (by rw [hkf])
                have hsame : foldB m a u (w.take (k + 1)) = foldB m a u (w.take k) := by
                  rw [hstep]; unfold stB; rw [if_neg (fun h => hkb h.2.1)]
                refine s28_43 ?_
                simp -implicitDefEqProofs (disch := constructor; omega) [↓h28_44, lenp, t0, t1, t2, t6, t7, t11, t12, t13, t14, t16, t36, t37, t38, t52, t53, t54, hk2, w2, o2, o3, gB_len, gB5]
                refine s28_45 ?_
                simp -implicitDefEqProofs (disch := constructor; omega) [lenp, t0, t1, t2, t6, t7, t11, t12, t13, t14, t16, t36, t37, t38, t52, t53, t54, hk2, w2, o2, o3, gB_len, gB5]
                refine s28_50 ?_
                simp -implicitDefEqProofs (disch := constructor; omega) [↓h28_50, lenp, t0, t1, t2, t6, t7, t11, t12, t13, t14, t16, t36, t37, t38, t52, t53, t54, hk2, w2, o2, o3, gB_len]
                refine hN' (z - 1) _ (by omega) ?_
                dsimp only [keepOnly_eq]
                refine ⟨k + 1, updZ kp' k (kpS m a x), by omega, by simp -implicitDefEqProofs (disch := constructor; omega) [lenp, t0, t1, t2, t6, t7, t11, t12, t13, t14, t16, t36, t37, t38, t52, t53, t54, hk2, w2, o2, o3, gB_len], by simp -implicitDefEqProofs (disch := constructor; omega) [lenp, t0, t1, t2, t6, t7, t11, t12, t13, t14, t16, t36, t37, t38, t52, t53, t54, hk2, w2, o2, o3, gB_len], by simp -implicitDefEqProofs (disch := constructor; omega) [lenp, t0, t1, t2, t6, t7, t11, t12, t13, t14, t16, t36, t37, t38, t52, t53, t54, hk2, w2, o2, o3, gB_len], by simp -implicitDefEqProofs (disch := constructor; omega) [lenp, t0, t1, t2, t6, t7, t11, t12, t13, t14, t16, t36, t37, t38, t52, t53, t54, hk2, w2, o2, o3, gB_len], by simp -implicitDefEqProofs (disch := constructor; omega) [lenp, t0, t1, t2, t6, t7, t11, t12, t13, t14, t16, t36, t37, t38, t52, t53, t54, hk2, w2, o2, o3, gB_len], by simp -implicitDefEqProofs (disch := constructor; omega) [lenp, t0, t1, t2, t6, t7, t11, t12, t13, t14, t16, t36, t37, t38, t52, t53, t54, hk2, w2, o2, o3, gB_len], by rw [hsame]; simp -implicitDefEqProofs (disch := constructor; omega) [lenp, t0, t1, t2, t6, t7, t11, t12, t13, t14, t16, t36, t37, t38, t52, t53, t54, hk2, w2, o2, o3, gB_len], by rw [hsame]; simp -implicitDefEqProofs (disch := constructor; omega) [lenp, t0, t1, t2, t6, t7, t11, t12, t13, t14, t16, t36, t37, t38, t52, t53, t54, hk2, w2, o2, o3, gB_len], by simp -implicitDefEqProofs (disch := constructor; omega) [lenp, t0, t1, t2, t6, t7, t11, t12, t13, t14, t16, t36, t37, t38, t52, t53, t54, hk2, w2, o2, o3, gB_len], by simp -implicitDefEqProofs (disch := constructor; omega) [lenp, t0, t1, t2, t6, t7, t11, t12, t13, t14, t16, t36, t37, t38, t52, t53, t54, hk2, w2, o2, o3, gB_len], by simp -implicitDefEqProofs (disch := constructor; omega) [lenp, t0, t1, t2, t6, t7, t11, t12, t13, t14, t16, t36, t37, t38, t52, t53, t54, hk2, w2, o2, o3, gB_len], by simp -implicitDefEqProofs (disch := constructor; omega) [lenp, t0, t1, t2, t6, t7, t11, t12, t13, t14, t16, t36, t37, t38, t52, t53, t54, hk2, w2, o2, o3, gB_len], by simp -implicitDefEqProofs (disch := constructor; omega) [lenp, t0, t1, t2, t6, t7, t11, t12, t13, t14, t16, t36, t37, t38, t52, t53, t54, hk2, w2, o2, o3, gB_len], by simp -implicitDefEqProofs (disch := constructor; omega) [lenp, t0, t1, t2, t6, t7, t11, t12, t13, t14, t16, t36, t37, t38, t52, t53, t54, hk2, w2, o2, o3, gB_len], by simp -implicitDefEqProofs (disch := constructor; omega) [lenp, t0, t1, t2, t6, t7, t11, t12, t13, t14, t16, t36, t37, t38, t52, t53, t54, hk2, w2, o2, o3, gB_len, oc], by simp -implicitDefEqProofs (disch := constructor; omega) [lenp, t0, t1, t2, t6, t7, t11, t12, t13, t14, t16, t36, t37, t38, t52, t53, t54, hk2, w2, o2, o3, gB_len, o0], by simp -implicitDefEqProofs (disch := constructor; omega) [lenp, t0, t1, t2, t6, t7, t11, t12, t13, t14, t16, t36, t37, t38, t52, t53, t54, hk2, w2, o2, o3, gB_len, o1], by simp -implicitDefEqProofs (disch := constructor; omega) [lenp, t0, t1, t2, t6, t7, t11, t12, t13, t14, t16, t36, t37, t38, t52, t53, t54, hk2, w2, o2, o3, gB_len, o2], by simp -implicitDefEqProofs (disch := constructor; omega) [lenp, t0, t1, t2, t6, t7, t11, t12, t13, t14, t16, t36, t37, t38, t52, t53, t54, hk2, w2, o2, o3, gB_len, o3], O.keep' (by (try dsimp only [keepOnly_eq]); omega) fun i hi => rfl, (by (try dsimp only [keepOnly_eq]); omega), fun k' hk' => ?_, fun i hi => ho i hi⟩
                exact kpE hkp hk2 hxe hxt k' hk'
          · have hxt' := eq_false hxt
            (try simp -implicitDefEqProofs (disch := constructor; omega) [lenp, t0, t1, t2, t6, t7, t11, t12, t13, t36, t37, t38, t52, t53, t54, hk2, hcw', hlw, hgw2, enW, w2, hxt'])
            refine s28_50 ?_
            simp -implicitDefEqProofs (disch := constructor; omega) [↓h28_50, lenp, t0, t1, t2, t6, t7, t11, t12, t13, t36, t37, t38, t52, t53, t54, hk2, hcw', hlw, hgw2, enW, w2, hxt']
            have hsame : foldB m a u (w.take (k + 1)) = foldB m a u (w.take k) := by
              rw [hstep]; unfold stB; rw [if_neg (fun h => hxt h.1)]
            refine hN' (z - 1) _ (by omega) ?_
            dsimp only [keepOnly_eq]
            refine ⟨k + 1, kp', by omega, by simp -implicitDefEqProofs (disch := constructor; omega) [lenp, t0, t1, t2, t6, t7, t11, t12, t13, t36, t37, t38, t52, t53, t54, hk2, hcw', hlw, hgw2, enW, w2, hxt'], by simp -implicitDefEqProofs (disch := constructor; omega) [lenp, t0, t1, t2, t6, t7, t11, t12, t13, t36, t37, t38, t52, t53, t54, hk2, hcw', hlw, hgw2, enW, w2, hxt'], by simp -implicitDefEqProofs (disch := constructor; omega) [lenp, t0, t1, t2, t6, t7, t11, t12, t13, t36, t37, t38, t52, t53, t54, hk2, hcw', hlw, hgw2, enW, w2, hxt'], by simp -implicitDefEqProofs (disch := constructor; omega) [lenp, t0, t1, t2, t6, t7, t11, t12, t13, t36, t37, t38, t52, t53, t54, hk2, hcw', hlw, hgw2, enW, w2, hxt'], by simp -implicitDefEqProofs (disch := constructor; omega) [lenp, t0, t1, t2, t6, t7, t11, t12, t13, t36, t37, t38, t52, t53, t54, hk2, hcw', hlw, hgw2, enW, w2, hxt'], by simp -implicitDefEqProofs (disch := constructor; omega) [lenp, t0, t1, t2, t6, t7, t11, t12, t13, t36, t37, t38, t52, t53, t54, hk2, hcw', hlw, hgw2, enW, w2, hxt'], by rw [hsame]; simp -implicitDefEqProofs (disch := constructor; omega) [lenp, t0, t1, t2, t6, t7, t11, t12, t13, t36, t37, t38, t52, t53, t54, hk2, hcw', hlw, hgw2, enW, w2, hxt'], by rw [hsame]; simp -implicitDefEqProofs (disch := constructor; omega) [lenp, t0, t1, t2, t6, t7, t11, t12, t13, t36, t37, t38, t52, t53, t54, hk2, hcw', hlw, hgw2, enW, w2, hxt'], by simp -implicitDefEqProofs (disch := constructor; omega) [lenp, t0, t1, t2, t6, t7, t11, t12, t13, t36, t37, t38, t52, t53, t54, hk2, hcw', hlw, hgw2, enW, w2, hxt'], by simp -implicitDefEqProofs (disch := constructor; omega) [lenp, t0, t1, t2, t6, t7, t11, t12, t13, t36, t37, t38, t52, t53, t54, hk2, hcw', hlw, hgw2, enW, w2, hxt'], by simp -implicitDefEqProofs (disch := constructor; omega) [lenp, t0, t1, t2, t6, t7, t11, t12, t13, t36, t37, t38, t52, t53, t54, hk2, hcw', hlw, hgw2, enW, w2, hxt'], by simp -implicitDefEqProofs (disch := constructor; omega) [lenp, t0, t1, t2, t6, t7, t11, t12, t13, t36, t37, t38, t52, t53, t54, hk2, hcw', hlw, hgw2, enW, w2, hxt'], by simp -implicitDefEqProofs (disch := constructor; omega) [lenp, t0, t1, t2, t6, t7, t11, t12, t13, t36, t37, t38, t52, t53, t54, hk2, hcw', hlw, hgw2, enW, w2, hxt'], by simp -implicitDefEqProofs (disch := constructor; omega) [lenp, t0, t1, t2, t6, t7, t11, t12, t13, t36, t37, t38, t52, t53, t54, hk2, hcw', hlw, hgw2, enW, w2, hxt'], by simp -implicitDefEqProofs (disch := constructor; omega) [lenp, t0, t1, t2, t6, t7, t11, t12, t13, t36, t37, t38, t52, t53, t54, hk2, hcw', hlw, hgw2, enW, w2, hxt', oc], by simp -implicitDefEqProofs (disch := constructor; omega) [lenp, t0, t1, t2, t6, t7, t11, t12, t13, t36, t37, t38, t52, t53, t54, hk2, hcw', hlw, hgw2, enW, w2, hxt', o0], by simp -implicitDefEqProofs (disch := constructor; omega) [lenp, t0, t1, t2, t6, t7, t11, t12, t13, t36, t37, t38, t52, t53, t54, hk2, hcw', hlw, hgw2, enW, w2, hxt', o1], by simp -implicitDefEqProofs (disch := constructor; omega) [lenp, t0, t1, t2, t6, t7, t11, t12, t13, t36, t37, t38, t52, t53, t54, hk2, hcw', hlw, hgw2, enW, w2, hxt', o2], by simp -implicitDefEqProofs (disch := constructor; omega) [lenp, t0, t1, t2, t6, t7, t11, t12, t13, t36, t37, t38, t52, t53, t54, hk2, hcw', hlw, hgw2, enW, w2, hxt', o3], O.keep' (by (try dsimp only [keepOnly_eq]); omega) fun i hi => (by simp -implicitDefEqProofs (disch := constructor; omega) [lenp, t0, t1, t2, t6, t7, t11, t12, t13, t36, t37, t38, t52, t53, t54, hk2, hcw', hlw, hgw2, enW, w2, hxt']), (by (try dsimp only [keepOnly_eq]); omega), fun k' hk' => ?_, fun i hi => by simp -implicitDefEqProofs (disch := constructor; omega) [lenp, t0, t1, t2, t6, t7, t11, t12, t13, t36, t37, t38, t52, t53, t54, hk2, hcw', hlw, hgw2, enW, w2, hxt']; exact ho i hi⟩
            rw [hkp k' hk']
            by_cases e : k' = k
            · subst e
              rw [← hxe, if_neg (by simp [hxt]), if_neg (by simp [hxt])]
            · by_cases e2 : w[k'].t = u
              · simp only [e2, and_true]
                by_cases e3 : k' < k
                · rw [if_pos e3, if_pos (by omega)]
                · rw [if_neg e3, if_neg (by omega)]
              · rw [if_neg (fun h => e2 h.2), if_neg (fun h => e2 h.2)]
        · rename_i hk2
          have hkw : k = w.length := by omega
          subst hkw
          rw [List.take_length] at t12 t13
          refine hE' 2 _ ?_
          (try simp -implicitDefEqProofs (disch := constructor; omega) [lenw, lenp, t0, t1, t2, t6, t7, t11, t12, t13, t36, t37, t38, t52, t53, t54])
          have gz0 : ∀ z, (gZ m.length b).set u (.int .i64 z) = gZ m.length (updZ b u z) := fun z => gZ_set hun z
          have gz1 : ∀ z, (gZ m.length a).set u (.int .i64 z) = gZ m.length (updZ a u z) := fun z => gZ_set hun z
          refine s28_51 ?_
          refine s28_52 ?_
          (try simp -implicitDefEqProofs (disch := first | (refine NE.mk ?_; first | omega | assumption) | (refine LTn.mk ?_; omega) | (refine NFam.mk ?_; simp only [o0, o1, o2, o3, hun, gZ_len, gz0, gz1, updO_same, notFam_cells]; omega)) [↓h28_52, lenw, lenp, t0, t1, t2, t6, t7, t11, t12, t13, t36, t37, t38, t52, t53, t54, o0, o1, o2, o3, hun, gZ_len, gz0, gz1, Nat.min_self, -List.length_flatMap])
          refine ⟨hold_load (j := q3) (o := 1) (f := q3) (ro := false) (e := 58) (w := 0) (cs := [.slice q0 0 m.length, .slice q1 0 m.length, .slice q2 0 w.length]) (c := .slice q1 0 m.length) (by simp -implicitDefEqProofs (disch := first | (refine NE.mk ?_; first | omega | assumption) | (refine LTn.mk ?_; omega) | (refine NFam.mk ?_; simp only [updO_same, notFam_cells]; omega)) [lenw, lenp, t0, t1, t2, t6, t7, t11, t12, t13, t36, t37, t38, t52, t53, t54, Nat.min_self, -List.length_flatMap]) (by simp -implicitDefEqProofs (disch := first | (refine NE.mk ?_; first | omega | assumption) | (refine LTn.mk ?_; omega) | (refine NFam.mk ?_; simp only [updO_same, notFam_cells]; omega)) [lenw, lenp, t0, t1, t2, t6, t7, t11, t12, t13, t36, t37, t38, t52, t53, t54, Nat.min_self, -List.length_flatMap]) (by simp -implicitDefEqProofs (disch := first | (refine NE.mk ?_; first | omega | assumption) | (refine LTn.mk ?_; omega) | (refine NFam.mk ?_; simp only [o3, updO_same, notFam_cells]; omega)) [lenw, lenp, t0, t1, t2, t6, t7, t11, t12, t13, t36, t37, t38, t52, t53, t54, o3, Nat.min_self, -List.length_flatMap]) rfl, ?_⟩
          (try simp -implicitDefEqProofs (disch := first | (refine NE.mk ?_; first | omega | assumption) | (refine LTn.mk ?_; omega) | (refine NFam.mk ?_; simp only [o0, o1, o2, o3, hun, gZ_len, gz0, gz1, updO_same, notFam_cells]; omega)) [↓h28_52h1, lenw, lenp, t0, t1, t2, t6, t7, t11, t12, t13, t36, t37, t38, t52, t53, t54, o0, o1, o2, o3, hun, gZ_len, gz0, gz1, Nat.min_self, -List.length_flatMap])
          have hfl := hfo.resolve_left (by simp)
          obtain ⟨z0, hz0⟩ : ∃ z, z = (foldB m a u w).1 := ⟨_, rfl⟩
          rw [← hz0]
          refine s28_53 ?_
          simp -implicitDefEqProofs (disch := constructor; omega) [↓h28_54, lenw, lenp, t0, t1, t2, t6, t7, t11, t12, t13, t36, t37, t38, t52, t53, t54]
          refine s28_55 ?_
          refine s28_56 (fun z s => ∃ (k : Nat), k + z = p.length ∧ s.t 0 = .v (.one (.slice jm 0 m.length)) ∧ s.t 1 = .v (.one xw) ∧ s.t 2 = .v (.one xp) ∧ s.t 6 = .v (.one (.ptr c 0)) ∧ s.t 7 = .v (.one (.ptr q3 0)) ∧ s.t 11 = .v (.one (.int .i64 u)) ∧
            s.t 36 = .v (.one (.slice jy 0 r.length)) ∧ s.t 37 = .v (.one (.int .i64 r.length)) ∧ s.t 38 = .v (.one (.int .i64 i)) ∧ s.t 116 = .v (.one xp) ∧ s.t 117 = .v (.one (.int .i64 p.length)) ∧ s.t 118 = .v (.one (.int .i64 k)) ∧
            s.h.o c = some (.cells c false 58 0 [.nils, .nils, .nils]) ∧ s.h.o q0 = some (.cells q0 false 3 1 (gZ m.length (updZ b u z0))) ∧ s.h.o q1 = some (.cells q1 false 3 1 (gZ m.length (updZ a u (z0 + priS (p.take k) u)))) ∧ s.h.o q2 = some (.cells q2 false 4 1 (gB w.length kp')) ∧
            s.h.o q3 = some (.cells q3 false 58 0 [.slice q0 0 m.length, .slice q1 0 m.length, .slice q2 0 w.length]) ∧ Own s.h.o lo s.h.nx (.slice jy 0 r.length) 3 1 enI r fo ∧ lo ≤ s.h.nx ∧ ∀ i, i < h.nx → s.h.o i = h.o i) p.length ?_ ?_
          · refine ⟨0, by omega, by simp -implicitDefEqProofs (disch := constructor; omega) [lenw, lenp, t0, t1, t2, t6, t7, t11, t12, t13, t36, t37, t38, t52, t53, t54], by simp -implicitDefEqProofs (disch := constructor; omega) [lenw, lenp, t0, t1, t2, t6, t7, t11, t12, t13, t36, t37, t38, t52, t53, t54], by simp -implicitDefEqProofs (disch := constructor; omega) [lenw, lenp, t0, t1, t2, t6, t7, t11, t12, t13, t36, t37, t38, t52, t53, t54], by simp -implicitDefEqProofs (disch := constructor; omega) [lenw, lenp, t0, t1, t2, t6, t7, t11, t12, t13, t36, t37, t38, t52, t53, t54], by simp -implicitDefEqProofs (disch := constructor; omega) [lenw, lenp, t0, t1, t2, t6, t7, t11, t12, t13, t36, t37, t38, t52, t53, t54], by simp -implicitDefEqProofs (disch := constructor; omega) [lenw, lenp, t0, t1, t2, t6, t7, t11, t12, t13, t36, t37, t38, t52, t53, t54], by simp -implicitDefEqProofs (disch := constructor; omega) [lenw, lenp, t0, t1, t2, t6, t7, t11, t12, t13, t36, t37, t38, t52, t53, t54], by simp -implicitDefEqProofs (disch := constructor; omega) [lenw, lenp, t0, t1, t2, t6, t7, t11, t12, t13, t36, t37, t38, t52, t53, t54], by simp -implicitDefEqProofs (disch := constructor; omega) [lenw, lenp, t0, t1, t2, t6, t7, t11, t12, t13, t36, t37, t38, t52, t53, t54], by simp -implicitDefEqProofs (disch := constructor; omega) [lenw, lenp, t0, t1, t2, t6, t7, t11, t12, t13, t36, t37, t38, t52, t53, t54], by simp -implicitDefEqProofs (disch := constructor; omega) [lenw, lenp, t0, t1, t2, t6, t7, t11, t12, t13, t36, t37, t38, t52, t53, t54], by simp -implicitDefEqProofs (disch := constructor; omega) [lenw, lenp, t0, t1, t2, t6, t7, t11, t12, t13, t36, t37, t38, t52, t53, t54], ?_, ?_, ?_, ?_, ?_, ?_, (by (try dsimp only [keepOnly_eq]); omega), fun i hi => ?_⟩
            · exact (killC (by omega) (by omega) (.inl (by omega)) (.inl (by omega))).trans oc
            · (try simp -implicitDefEqProofs (disch := constructor; omega) [lenw, lenp, t0, t1, t2, t6, t7, t11, t12, t13, t36, t37, t38, t52, t53, t54])
            · (try simp -implicitDefEqProofs (disch := constructor; omega) [lenw, lenp, t0, t1, t2, t6, t7, t11, t12, t13, t36, t37, t38, t52, t53, t54, priS])
            · exact (killC (by omega) (by omega) (.inr (by rw [o2]; exact (by omega : q2 ≠ q0))) (.inr (by rw [o2]; exact (by omega : q2 ≠ q1)))).trans o2
            · exact (killC (by omega) (by omega) (.inr (by rw [o3]; exact (by omega : q3 ≠ q0))) (.inr (by rw [o3]; exact (by omega : q3 ≠ q1)))).trans o3
            · exact O.keep (by (try dsimp only [keepOnly_eq]); omega) fun i cs h1 h2 h3 => killC (by omega) (by omega) (.inr (by rw [h3]; exact (by omega : fo ≠ q0))) (.inr (by rw [h3]; exact (by omega : fo ≠ q1)))
            · exact (killC (by omega) (by omega) (.inl (by omega)) (.inl (by omega))).trans (ho i hi)
          · clear oc o0 o1 o2 o3 O hn ho t0 t1 t2 t6 t7 t11 t12 t13 t36 t37 t38 t52 t53 t54 gz0 gz1
            have hbase := P.base_ok V u
            have hbz : baseS m w a u = z0 := by rw [hz0]; rfl
            rw [hbz] at hbase
            have hidx : i ≤ 64 := by omega
            have ppk : ∀ k, 0 ≤ priS (p.take k) u ∧ priS (p.take k) u ≤ 4194304 := fun k => priS_ok (fun x hx => V.pp x (List.mem_of_mem_take hx)) (by rw [List.map_take]; exact V.pd.sublist (List.take_sublist _ _)) u
            rintro z s Q3 ⟨k, hz, t0, t1, t2, t6, t7, t11, t36, t37, t38, t116, t117, t118, oc, o0, o1, o2, o3, O, hn, ho⟩ hN' hE' hR'
            refine s28_57 ?_
            simp -implicitDefEqProofs (disch := constructor; omega) [↓h28_58, t0, t1, t2, t6, t7, t11, t36, t37, t38, t116, t117, t118]
            refine s28_59 ?_
            simp -implicitDefEqProofs (disch := constructor; omega) [t0, t1, t2, t6, t7, t11, t36, t37, t38, t116, t117, t118]
            split
            · rename_i hk2
              obtain ⟨jp, fp, rop, ep, wp, csp, rfl, hjp, hcp, hlp, hgp1, hgp2, hgp3⟩ := vp.get enPr_len hk2
              have hcp' := (ho jp hjp).trans hcp
              obtain ⟨x, hxe⟩ : ∃ x, x = p[k] := ⟨_, rfl⟩
              rw [← hxe] at hgp1 hgp2 hgp3
              have w2 := wrap64 (show -9223372036854775808 ≤ (k : Int) + 1 by omega) (by omega)
              have hps := priS_step (u := u) hk2
              rw [← hxe] at hps
              refine s28_61 ?_
              refine s28_62 ?_
              refine s28_63 ?_
              simp -implicitDefEqProofs (disch := constructor; omega) [↓h28_64, t0, t1, t2, t6, t7, t11, t36, t37, t38, t116, t117, t118, hk2, hcp', hlp, hgp2, enPr, w2]
              refine s28_65 ?_
              simp -implicitDefEqProofs (disch := constructor; omega) [↓h28_66, t0, t1, t2, t6, t7, t11, t36, t37, t38, t116, t117, t118, hk2, hcp', hlp, hgp2, enPr, w2]
              refine s28_67 ?_
              simp -implicitDefEqProofs (disch := constructor; omega) [t0, t1, t2, t6, t7, t11, t36, t37, t38, t116, t117, t118, hk2, hcp', hlp, hgp2, enPr, w2]
              by_cases hxu : x.m = u
              · have hp1 := ppk k
                have hp2 := ppk (k + 1)
                rw [if_pos hxu] at hps
                have w3 := wrap64 (show -9223372036854775808 ≤ z0 + priS (p.take k) u + x.s by omega) (by omega)
                have ga : (gZ m.length (updZ a u (z0 + priS (p.take k) u)))[u]? = some (.int .i64 (z0 + priS (p.take k) u)) := by rw [gZ_get hun]; simp [updZ]
                have gs : (gZ m.length (updZ a u (z0 + priS (p.take k) u))).set u (.int .i64 (z0 + priS (p.take k) u + x.s)) = gZ m.length (updZ a u (z0 + priS (p.take (k + 1)) u)) := by
                  rw [gZ_set hun, updZ_updZ, hps, Int.add_assoc]
                (try simp -implicitDefEqProofs (disch := constructor; omega) [t0, t1, t2, t6, t7, t11, t36, t37, t38, t116, t117, t118, hk2, hcp', hlp, hgp2, enPr, w2, hxu, o1, o3, hun, gZ_len, w3, ga, gs])
                have hfl := hfo.resolve_left (by simp)
                refine s28_68 ?_
                simp -implicitDefEqProofs (disch := constructor; omega) [↓h28_68, t0, t1, t2, t6, t7, t11, t36, t37, t38, t116, t117, t118, hk2, hcp', hlp, hgp2, enPr, w2, hxu, o1, o3, hun, gZ_len, w3, ga, gs]
                refine s28_69 ?_
                simp -implicitDefEqProofs (disch := constructor; omega) [↓h28_69, t0, t1, t2, t6, t7, t11, t36, t37, t38, t116, t117, t118, hk2, hcp', hlp, hgp2, enPr, w2, hxu, o1, o3, hun, gZ_len, w3, ga, gs]
                refine hN' (z - 1) _ (by omega) ?_
                dsimp only [keepOnly_eq]
                refine ⟨k + 1, by omega, by simp -implicitDefEqProofs (disch := constructor; omega) [t0, t1, t2, t6, t7, t11, t36, t37, t38, t116, t117, t118, hk2, hcp', hlp, hgp2, enPr, w2, hxu, o1, o3, hun, gZ_len, w3, ga, gs], by simp -implicitDefEqProofs (disch := constructor; omega) [t0, t1, t2, t6, t7, t11, t36, t37, t38, t116, t117, t118, hk2, hcp', hlp, hgp2, enPr, w2, hxu, o1, o3, hun, gZ_len, w3, ga, gs], by simp -implicitDefEqProofs (disch := constructor; omega) [t0, t1, t2, t6, t7, t11, t36, t37, t38, t116, t117, t118, hk2, hcp', hlp, hgp2, enPr, w2, hxu, o1, o3, hun, gZ_len, w3, ga, gs], by simp -implicitDefEqProofs (disch := constructor; omega) [t0, t1, t2, t6, t7, t11, t36, t37, t38, t116, t117, t118, hk2, hcp', hlp, hgp2, enPr, w2, hxu, o1, o3, hun, gZ_len, w3, ga, gs], by simp -implicitDefEqProofs (disch := constructor; omega) [t0, t1, t2, t6, t7, t11, t36, t37, t38, t116, t117, t118, hk2, hcp', hlp, hgp2, enPr, w2, hxu, o1, o3, hun, gZ_len, w3, ga, gs], by simp -implicitDefEqProofs (disch := constructor; omega) [t0, t1, t2, t6, t7, t11, t36, t37, t38, t116, t117, t118, hk2, hcp', hlp, hgp2, enPr, w2, hxu, o1, o3, hun, gZ_len, w3, ga, gs], by simp -implicitDefEqProofs (disch := constructor; omega) [t0, t1, t2, t6, t7, t11, t36, t37, t38, t116, t117, t118, hk2, hcp', hlp, hgp2, enPr, w2, hxu, o1, o3, hun, gZ_len, w3, ga, gs], by simp -implicitDefEqProofs (disch := constructor; omega) [t0, t1, t2, t6, t7, t11, t36, t37, t38, t116, t117, t118, hk2, hcp', hlp, hgp2, enPr, w2, hxu, o1, o3, hun, gZ_len, w3, ga, gs], by simp -implicitDefEqProofs (disch := constructor; omega) [t0, t1, t2, t6, t7, t11, t36, t37, t38, t116, t117, t118, hk2, hcp', hlp, hgp2, enPr, w2, hxu, o1, o3, hun, gZ_len, w3, ga, gs], by simp -implicitDefEqProofs (disch := constructor; omega) [t0, t1, t2, t6, t7, t11, t36, t37, t38, t116, t117, t118, hk2, hcp', hlp, hgp2, enPr, w2, hxu, o1, o3, hun, gZ_len, w3, ga, gs], by simp -implicitDefEqProofs (disch := constructor; omega) [t0, t1, t2, t6, t7, t11, t36, t37, t38, t116, t117, t118, hk2, hcp', hlp, hgp2, enPr, w2, hxu, o1, o3, hun, gZ_len, w3, ga, gs], by simp -implicitDefEqProofs (disch := constructor; omega) [t0, t1, t2, t6, t7, t11, t36, t37, t38, t116, t117, t118, hk2, hcp', hlp, hgp2, enPr, w2, hxu, o1, o3, hun, gZ_len, w3, ga, gs], ?_, ?_, ?_, ?_, ?_, ?_, (by (try dsimp only [keepOnly_eq]); omega), fun i hi => ?_⟩
                · exact (killB (n := s.h.nx) (by omega) (by omega) (by omega) (.inl (by omega))).trans oc
                · exact (killB (n := s.h.nx) (by omega) (by omega) (by omega) (.inl (by omega))).trans o0
                · (try simp -implicitDefEqProofs (disch := constructor; omega) [t0, t1, t2, t6, t7, t11, t36, t37, t38, t116, t117, t118, hk2, hcp', hlp, hgp2, enPr, w2, hxu, o1, o3, hun, gZ_len, w3, ga, gs])
                · exact (killB (n := s.h.nx) (by omega) (by omega) (by omega) (.inr (by rw [o2]; exact (by omega : q2 ≠ q1)))).trans o2
                · exact (killB (n := s.h.nx) (by omega) (by omega) (by omega) (.inr (by rw [o3]; exact (by omega : q3 ≠ q1)))).trans o3
                · exact O.keep (by (try dsimp only [keepOnly_eq]); omega) fun i cs h1 h2 h3 => killB (n := s.h.nx) (by omega) h2 (by omega) (.inr (by rw [h3]; exact (by omega : fo ≠ q1)))
                · exact (killB (n := s.h.nx) (by omega) (by omega) (by omega) (.inl (by omega))).trans (ho i hi)
              · rw [if_neg hxu, Int.add_zero] at hps
                have hxu' := eq_false hxu
                (try simp -implicitDefEqProofs (disch := constructor; omega) [t0, t1, t2, t6, t7, t11, t36, t37, t38, t116, t117, t118, hk2, hcp', hlp, hgp2, enPr, w2, hxu'])
                refine s28_69 ?_
                simp -implicitDefEqProofs (disch := constructor; omega) [↓h28_69, t0, t1, t2, t6, t7, t11, t36, t37, t38, t116, t117, t118, hk2, hcp', hlp, hgp2, enPr, w2, hxu']
                refine hN' (z - 1) _ (by omega) ?_
                dsimp only [keepOnly_eq]
                refine ⟨k + 1, by omega, by simp -implicitDefEqProofs (disch := constructor; omega) [t0, t1, t2, t6, t7, t11, t36, t37, t38, t116, t117, t118, hk2, hcp', hlp, hgp2, enPr, w2, hxu'], by simp -implicitDefEqProofs (disch := constructor; omega) [t0, t1, t2, t6, t7, t11, t36, t37, t38, t116, t117, t118, hk2, hcp', hlp, hgp2, enPr, w2, hxu'], by simp -implicitDefEqProofs (disch := constructor; omega) [t0, t1, t2, t6, t7, t11, t36, t37, t38, t116, t117, t118, hk2, hcp', hlp, hgp2, enPr, w2, hxu'], by simp -implicitDefEqProofs (disch := constructor; omega) [t0, t1, t2, t6, t7, t11, t36, t37, t38, t116, t117, t118, hk2, hcp', hlp, hgp2, enPr, w2, hxu'], by simp -implicitDefEqProofs (disch := constructor; omega) [t0, t1, t2, t6, t7, t11, t36, t37, t38, t116, t117, t118, hk2, hcp', hlp, hgp2, enPr, w2, hxu'], by simp -implicitDefEqProofs (disch := constructor; omega) [t0, t1, t2, t6, t7, t11, t36, t37, t38, t116, t117, t118, hk2, hcp', hlp, hgp2, enPr, w2, hxu'], by simp -implicitDefEqProofs (disch := constructor; omega) [t0, t1, t2, t6, t7, t11, t36, t37, t38, t116, t117, t118, hk2, hcp', hlp, hgp2, enPr, w2, hxu'], by simp -implicitDefEqProofs (disch := constructor; omega) [t0, t1, t2, t6, t7, t11, t36, t37, t38, t116, t117, t118, hk2, hcp', hlp, hgp2, enPr, w2, hxu'], by simp -implicitDefEqProofs (disch := constructor; omega) [t0, t1, t2, t6, t7, t11, t36, t37, t38, t116, t117, t118, hk2, hcp', hlp, hgp2, enPr, w2, hxu'], by simp -implicitDefEqProofs (disch := constructor; omega) [t0, t1, t2, t6, t7, t11, t36, t37, t38, t116, t117, t118, hk2, hcp', hlp, hgp2, enPr, w2, hxu'], by simp -implicitDefEqProofs (disch := constructor; omega) [t0, t1, t2, t6, t7, t11, t36, t37, t38, t116, t117, t118, hk2, hcp', hlp, hgp2, enPr, w2, hxu'], by simp -implicitDefEqProofs (disch := constructor; omega) [t0, t1, t2, t6, t7, t11, t36, t37, t38, t116, t117, t118, hk2, hcp', hlp, hgp2, enPr, w2, hxu'], by simp -implicitDefEqProofs (disch := constructor; omega) [t0, t1, t2, t6, t7, t11, t36, t37, t38, t116, t117, t118, hk2, hcp', hlp, hgp2, enPr, w2, hxu', oc], by simp -implicitDefEqProofs (disch := constructor; omega) [t0, t1, t2, t6, t7, t11, t36, t37, t38, t116, t117, t118, hk2, hcp', hlp, hgp2, enPr, w2, hxu', o0], by simp -implicitDefEqProofs (disch := constructor; omega) [t0, t1, t2, t6, t7, t11, t36, t37, t38, t116, t117, t118, hk2, hcp', hlp, hgp2, enPr, w2, hxu', o1, hps], by simp -implicitDefEqProofs (disch := constructor; omega) [t0, t1, t2, t6, t7, t11, t36, t37, t38, t116, t117, t118, hk2, hcp', hlp, hgp2, enPr, w2, hxu', o2], by simp -implicitDefEqProofs (disch := constructor; omega) [t0, t1, t2, t6, t7, t11, t36, t37, t38, t116, t117, t118, hk2, hcp', hlp, hgp2, enPr, w2, hxu', o3], O.keep' (by (try dsimp only [keepOnly_eq]); omega) fun i hi => (by simp -implicitDefEqProofs (disch := constructor; omega) [t0, t1, t2, t6, t7, t11, t36, t37, t38, t116, t117, t118, hk2, hcp', hlp, hgp2, enPr, w2, hxu']), (by (try dsimp only [keepOnly_eq]); omega), fun i hi => by simp -implicitDefEqProofs (disch := constructor; omega) [t0, t1, t2, t6, t7, t11, t36, t37, t38, t116, t117, t118, hk2, hcp', hlp, hgp2, enPr, w2, hxu']; exact ho i hi⟩
            · rename_i hk2
              have hkp' : k = p.length := by omega
              subst hkp'
              rw [List.take_length] at o1
              refine hE' 4 _ ?_
              (try simp -implicitDefEqProofs (disch := constructor; omega) [t0, t1, t2, t6, t7, t11, t36, t37, t38, t116, t117, t118, w1])
              refine s28_70 ?_
              simp -implicitDefEqProofs (disch := constructor; omega) [↓h28_70, t0, t1, t2, t6, t7, t11, t36, t37, t38, t116, t117, t118, w1]
              refine hN (k' - 1) _ (by omega) ?_
              dsimp only [keepOnly_eq]
              have hPs := P.step V S hi (kp' := kp') (fun k hk => by rw [hkp k hk, hu]; simp [hk])
              rw [hu, hbz] at hPs
              refine ⟨i + 1, updZ b u z0, updZ a u (z0 + priS p u), kp', by omega, by simp -implicitDefEqProofs (disch := constructor; omega) [t0, t1, t2, t6, t7, t11, t36, t37, t38, t116, t117, t118, w1], by simp -implicitDefEqProofs (disch := constructor; omega) [t0, t1, t2, t6, t7, t11, t36, t37, t38, t116, t117, t118, w1], by simp -implicitDefEqProofs (disch := constructor; omega) [t0, t1, t2, t6, t7, t11, t36, t37, t38, t116, t117, t118, w1], by simp -implicitDefEqProofs (disch := constructor; omega) [t0, t1, t2, t6, t7, t11, t36, t37, t38, t116, t117, t118, w1], by simp -implicitDefEqProofs (disch := constructor; omega) [t0, t1, t2, t6, t7, t11, t36, t37, t38, t116, t117, t118, w1], by simp -implicitDefEqProofs (disch := constructor; omega) [t0, t1, t2, t6, t7, t11, t36, t37, t38, t116, t117, t118, w1], by simp -implicitDefEqProofs (disch := constructor; omega) [t0, t1, t2, t6, t7, t11, t36, t37, t38, t116, t117, t118, w1], by simp -implicitDefEqProofs (disch := constructor; omega) [t0, t1, t2, t6, t7, t11, t36, t37, t38, t116, t117, t118, w1], by simp -implicitDefEqProofs (disch := constructor; omega) [t0, t1, t2, t6, t7, t11, t36, t37, t38, t116, t117, t118, w1, oc], by simp -implicitDefEqProofs (disch := constructor; omega) [t0, t1, t2, t6, t7, t11, t36, t37, t38, t116, t117, t118, w1, o0], by simp -implicitDefEqProofs (disch := constructor; omega) [t0, t1, t2, t6, t7, t11, t36, t37, t38, t116, t117, t118, w1, o1], by simp -implicitDefEqProofs (disch := constructor; omega) [t0, t1, t2, t6, t7, t11, t36, t37, t38, t116, t117, t118, w1, o2], by simp -implicitDefEqProofs (disch := constructor; omega) [t0, t1, t2, t6, t7, t11, t36, t37, t38, t116, t117, t118, w1, o3], O.keep' (by (try dsimp only [keepOnly_eq]); omega) fun i hi => (by simp -implicitDefEqProofs (disch := constructor; omega) [t0, t1, t2, t6, t7, t11, t36, t37, t38, t116, t117, t118, w1]), (by (try dsimp only [keepOnly_eq]); omega), hPs, fun i hi => ho i hi⟩
    · rename_i hi
      have hir : i = r.length := by omega
      subst hir
      refine hE 0 _ ?_
      (try simp -implicitDefEqProofs (disch := constructor; omega) [lenm, lenw, lenp, t0, t1, t2, t6, t7, t36, t37, t38])
      refine s28_71 ?_
      simp -implicitDefEqProofs (disch := constructor; omega) [↓h28_72, lenm, lenw, lenp, t0, t1, t2, t6, t7, t36, t37, t38, o3, oc]
      have PQ := P.fin V S hr
      refine hQ _ _ _ (.inr rfl) (resc_box (j := c) (f := c) (ro := false) (e := 58) (w := 0) (cs := [.slice q0 0 m.length, .slice q1 0 m.length, .slice q2 0 w.length]) (by simp -implicitDefEqProofs (disch := constructor; omega) [lenm, lenw, lenp, t0, t1, t2, t6, t7, t36, t37, t38]) (by simp -implicitDefEqProofs (disch := constructor; omega) [lenm, lenw, lenp, t0, t1, t2, t6, t7, t36, t37, t38]) rfl) ⟨q0, q1, q2, b, a, kp, rfl, PQ, by omega, by omega, by omega, (by (try dsimp only [keepOnly_eq]); omega), ?_, ?_, ?_, (by (try dsimp only [keepOnly_eq]); omega), fun i hi => ?_⟩
      · (try simp -implicitDefEqProofs (disch := constructor; omega) [lenm, lenw, lenp, t0, t1, t2, t6, t7, t36, t37, t38, o0])
      · (try simp -implicitDefEqProofs (disch := constructor; omega) [lenm, lenw, lenp, t0, t1, t2, t6, t7, t36, t37, t38, o1])
      · (try simp -implicitDefEqProofs (disch := constructor; omega) [lenm, lenw, lenp, t0, t1, t2, t6, t7, t36, t37, t38, o2])
      · (try simp -implicitDefEqProofs (disch := constructor; omega) [lenm, lenw, lenp, t0, t1, t2, t6, t7, t36, t37, t38])
        exact ho i hi
end Go.Proofs.Ythoicdnlcnppgaa.Fn
