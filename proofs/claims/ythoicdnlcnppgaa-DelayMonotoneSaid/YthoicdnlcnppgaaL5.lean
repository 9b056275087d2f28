/- Contract: the law DelayMonotone. Conditions: none. -/
import Derived.Test.YthoicdnlcnppgaaD11
import Derived.Test.YthoicdnlcnppgaaFl5
set_option linter.unusedVariables false
set_option linter.unusedSimpArgs false
namespace Go.Proofs.Ythoicdnlcnppgaa.Fn
open Go Go.Am
set_option maxRecDepth 100000
set_option maxHeartbeats 1000000
def addP (i d : Int) (x : Pr) : Pr := if x.m = i then ⟨x.m, x.s + d⟩ else x
def anyP (i : Int) (p : List Pr) : Bool := p.any fun x => decide (x.m = i)
def moreS (p : List Pr) (i d : Int) : List Pr := p.map (addP i d) ++ if anyP i p = true then [] else [⟨i, d⟩]
theorem anyP_step {i : Int} {p : List Pr} {k : Nat} (h : k < p.length) : anyP i (p.take (k + 1)) = (anyP i (p.take k) || decide (p[k].m = i)) := by
  unfold anyP; rw [List.take_succ_eq_append_getElem h, List.any_append]; simp
theorem anyP_nil {i : Int} : anyP i [] = false := rfl
theorem anyP_iff {i : Int} {p : List Pr} : anyP i p = true ↔ i ∈ p.map Pr.m := by
  unfold anyP; rw [List.any_eq_true]; simp only [List.mem_map, decide_eq_true_eq]
theorem addP_m {i d : Int} {x : Pr} : (addP i d x).m = x.m := by unfold addP; split <;> rfl
theorem priS_cons {x : Pr} {p : List Pr} {v : Int} : priS (x :: p) v = (if x.m = v then x.s else 0) + priS p v := by
  unfold priS; by_cases e : x.m = v <;> simp [e]
theorem priS_app {p q : List Pr} {v : Int} : priS (p ++ q) v = priS p v + priS q v := by
  unfold priS; rw [List.filter_append, List.map_append, List.sum_append]
theorem priS_add {i d v : Int} : ∀ (p : List Pr), (p.map Pr.m).Nodup → priS (p.map (addP i d)) v = priS p v + if v = i ∧ anyP i p = true then d else 0
  | [], _ => by simp [priS, anyP]
  | x :: p, hd => by
    have h1 := List.nodup_cons.1 hd
    have ih := priS_add (i := i) (d := d) (v := v) p h1.2
    rw [List.map_cons, priS_cons, priS_cons, ih, addP_m]
    have ha : anyP i (x :: p) = (decide (x.m = i) || anyP i p) := by unfold anyP; rw [List.any_cons]
    by_cases e : x.m = i
    · have hn : anyP i p = false := by
        cases h : anyP i p with
        | false => rfl
        | true => exact absurd (anyP_iff.1 h) (by rw [← e]; exact h1.1)
      rw [ha, hn]
      by_cases e2 : v = i
      · subst e2; simp [e, addP]; omega
      · have e3 : ¬ x.m = v := fun h => e2 (by rw [← h, e])
        simp [e2, e3]
    · have e1 : addP i d x = x := by unfold addP; rw [if_neg e]
      rw [ha, e1, decide_eq_false e, Bool.false_or]; omega
theorem priS_more {i d v : Int} {p : List Pr} (hd : (p.map Pr.m).Nodup) : priS (moreS p i d) v = priS p v + if v = i then d else 0 := by
  unfold moreS
  rw [priS_app, priS_add p hd]
  cases h : anyP i p with
  | true => simp [priS]
  | false =>
    by_cases e : v = i
    · subst e; simp [priS]
    · have e' : ¬ i = v := fun h => e h.symm
      simp [priS, e, e']
theorem addP_ok {n i d : Int} {x : Pr} (h : okR n x) (hd : 0 ≤ d ∧ d < 500) : okQ n (addP i d x) := by
  unfold okR at h
  unfold addP
  split
  · exact ⟨h.1, h.2.1, within_iff.2 (by (try dsimp only); omega)⟩
  · exact ⟨h.1, h.2.1, within_iff.2 (by omega)⟩
theorem more_valid {m : List Mom} {w : List Wt} {p : List Pr} {i d : Int} (M : Made m.length m w p) (hd : 0 ≤ d ∧ d < 500) (hi : 0 ≤ i ∧ i < m.length) : Valid m w (moreS p i d) := by
  have V := M.valid
  have n6 := M.n6
  have pl := M.pl
  have e : (p.map (addP i d)).map Pr.m = p.map Pr.m := by rw [List.map_map]; exact List.map_congr_left fun x _ => addP_m
  refine ⟨V.ml, V.wl, ?_, V.mm, V.ww, fun x hx => ?_, ?_, V.s⟩
  · unfold moreS; split <;> simp <;> omega
  · unfold moreS at hx
    rcases List.mem_append.1 hx with hx | hx
    · obtain ⟨y, hy, rfl⟩ := List.mem_map.1 hx
      exact addP_ok (M.p y hy) hd
    · split at hx
      · simp at hx
      · simp at hx; subst hx
        exact ⟨hi.1, hi.2, within_iff.2 (by (try dsimp only); omega)⟩
  · unfold moreS
    rw [List.map_append, e]
    split
    · simpa using V.pd
    · rename_i h
      refine List.nodup_append.2 ⟨V.pd, by simp, fun a ha b hb eab => ?_⟩
      simp at hb
      subst eab; subst hb
      exact h (anyP_iff.2 ha)
theorem baseMono {m : List Mom} {w : List Wt} {a a' : Int → Int} {v D : Int} (hall : ∀ x ∈ w, x.ms = -1) (hD : 0 ≤ D) (h : ∀ x ∈ w, x.t = v → a x.f ≤ a' x.f ∧ a' x.f ≤ a x.f + D) :
    (foldB m a v w).1 ≤ (foldB m a' v w).1 ∧ (foldB m a' v w).1 ≤ (foldB m a v w).1 + D := by
  have k : ∀ b : Int → Int, ∀ x ∈ w, (KW m b v x ↔ x.t = v) := fun b x hx => ⟨fun h => h.1, fun h => ⟨h, by unfold kpS; rw [hall x hx]; simp⟩⟩
  have F := foldB_spec m a v w
  have F' := foldB_spec m a' v w
  constructor
  · rcases F.eq with ⟨e, h1 | h1⟩ | ⟨x, hx, hk, e⟩
    · have := F'.hd h1; omega
    · rcases F'.eq with ⟨e', _⟩ | ⟨x, hx, hk, e'⟩
      · omega
      · exact absurd ((k a x hx).2 ((k a' x hx).1 hk)) (h1 x hx)
    · have := F'.ge x hx ((k a' x hx).2 ((k a x hx).1 hk))
      have := h x hx ((k a x hx).1 hk)
      omega
  · rcases F'.eq with ⟨e, h1 | h1⟩ | ⟨x, hx, hk, e⟩
    · have := F.hd h1; omega
    · rcases F.eq with ⟨e', _⟩ | ⟨x, hx, hk, e'⟩
      · omega
      · exact absurd ((k a' x hx).2 ((k a x hx).1 hk)) (h1 x hx)
    · have := F.ge x hx ((k a x hx).2 ((k a' x hx).1 hk))
      have := h x hx ((k a' x hx).1 hk)
      omega
theorem monotone {m : List Mom} {w : List Wt} {p : List Pr} {i d : Int} {b a b' a' : Int → Int} {kp kp' : Int → Bool} (P : PropQ m w p b a kp) (P' : PropQ m w (moreS p i d) b' a' kp') (V : Valid m w p) (V' : Valid m w (moreS p i d))
    (hall : ∀ x ∈ w, x.ms = -1) (hd : 0 ≤ d) (hw : ∀ x ∈ w, okW m.length x) : ∀ v : Nat, v < m.length → (v < i → a' v = a v) ∧ ((v : Int) = i → a' v = a v + d) ∧ a v ≤ a' v ∧ a' v ≤ a v + d := by
  intro v
  induction v using Nat.strongRecOn with
  | ind v ih =>
    intro hv
    have s1 := (P.sec V hv).1
    have s2 := (P'.sec V' hv).1
    rw [priS_more V.pd] at s2
    have pre : ∀ x ∈ w, x.t = v → (x.f < i → a' x.f = a x.f) ∧ a x.f ≤ a' x.f ∧ a' x.f ≤ a x.f + d ∧ x.f < v := fun x hx hxt => by
      have h2 := hw x hx
      unfold okW at h2
      have h3 := ih x.f.toNat (by omega) (by omega)
      rw [show ((x.f.toNat : Nat) : Int) = x.f by omega] at h3
      exact ⟨h3.1, h3.2.2.1, h3.2.2.2, by omega⟩
    have B := baseMono (m := m) (v := v) hall hd fun x hx hxt => ⟨(pre x hx hxt).2.1, (pre x hx hxt).2.2.1⟩
    by_cases e : (v : Int) ≤ i
    · have B0 := baseMono (m := m) (a := a) (a' := a') (v := v) (D := 0) hall (Int.le_refl _) fun x hx hxt => by
        obtain ⟨p1, p2, p3, p4⟩ := pre x hx hxt
        have := p1 (by omega)
        omega
      by_cases e2 : (v : Int) = i
      · rw [if_pos e2] at s2
        refine ⟨fun _ => by omega, fun _ => by omega, by omega, by omega⟩
      · rw [if_neg e2] at s2
        refine ⟨fun _ => by omega, fun _ => by omega, by omega, by omega⟩
    · rw [if_neg (by omega)] at s2
      refine ⟨fun _ => by omega, fun _ => by omega, by omega, by omega⟩
theorem k5 (x : Cell) (l : List Int) (at' by' : Int) (h : AH) (v : View h.o h.nx x enI l) (hlen : l.length < 9223372036854775807) :
    wF fl5 out 5 [.v (.one x), .v (.one (.int .i64 at')), .v (.one (.int .i64 by'))] h fun r h' => r = .v (.one (.bool true)) := by
  refine wF_fn fs5 rfl fun Q hQ => ?_
  refine s5_0 ?_
  simp -implicitDefEqProofs (disch := first | (refine NE.mk ?_; first | omega | assumption) | (refine LTn.mk ?_; omega) | (refine NFam.mk ?_; simp only [updO_same, notFam_cells]; omega)) [↓h5_1, Nat.min_self, -List.length_flatMap]
  refine s5_2 ?_
  simp -implicitDefEqProofs (disch := first | (refine NE.mk ?_; first | omega | assumption) | (refine LTn.mk ?_; omega) | (refine NFam.mk ?_; simp only [updO_same, notFam_cells]; omega)) [↓h5_3, ↓h5_3_1, Nat.min_self, -List.length_flatMap]
  refine wF_mono (lift5 (k12 x l _ (v.keep (by (try dsimp only [keepOnly_eq]); omega) fun i hi => rfl) hlen)) ?_
  rintro _ h1 ⟨xm, m, fm, xw, w0, fw, xp, p, fp, j, rfl, D, M, hm0, hle1⟩
  obtain ⟨lo, D0⟩ : ∃ lo, Del h1 lo j xm m fm xw w0 fw xp p fp := ⟨_, D⟩
  clear D
  have lenw := D0.w.view.lenV (fs := fl5) (out := out)
  (try simp -implicitDefEqProofs (disch := first | (refine NE.mk ?_; first | omega | assumption) | (refine LTn.mk ?_; omega) | (refine NFam.mk ?_; simp only [updO_same, notFam_cells]; omega)) [↓h5_3, ↓h5_3_1, lenw, Nat.min_self, -List.length_flatMap])
  refine s5_4 ?_
  refine s5_5 ?_
  simp -implicitDefEqProofs (disch := first | (refine NE.mk ?_; first | omega | assumption) | (refine LTn.mk ?_; omega) | (refine NFam.mk ?_; simp only [updO_same, notFam_cells]; omega)) [↓h5_6, lenw, Nat.min_self, -List.length_flatMap]
  refine s5_7 ?_
  refine s5_8 (fun k s => ∃ (i : Nat) (w : List Wt), i + k = w0.length ∧ s.t 1 = .v (.one (.int .i64 (at'))) ∧ s.t 2 = .v (.one (.int .i64 (by'))) ∧ s.t 7 = .v (.one (xm)) ∧ s.t 8 = .v (.one (xw)) ∧ s.t 9 = .v (.one (xp)) ∧ s.t 30 = .v (.one (.int .i64 (w0.length))) ∧ s.t 31 = .v (.one (.int .i64 (i))) ∧ w.length = w0.length ∧ Del s.h lo j xm m fm xw w fw xp p fp ∧ (∀ x ∈ w, okW m.length x) ∧ ∀ k (hk : k < w.length), k < i → w[k].ms = -1) w0.length ?_ ?_
  · exact ⟨0, w0, by omega, by simp -implicitDefEqProofs (disch := first | (refine NE.mk ?_; first | omega | assumption) | (refine LTn.mk ?_; omega) | (refine NFam.mk ?_; simp only [updO_same, notFam_cells]; omega)) [lenw, Nat.min_self, -List.length_flatMap], by simp -implicitDefEqProofs (disch := first | (refine NE.mk ?_; first | omega | assumption) | (refine LTn.mk ?_; omega) | (refine NFam.mk ?_; simp only [updO_same, notFam_cells]; omega)) [lenw, Nat.min_self, -List.length_flatMap], by simp -implicitDefEqProofs (disch := first | (refine NE.mk ?_; first | omega | assumption) | (refine LTn.mk ?_; omega) | (refine NFam.mk ?_; simp only [updO_same, notFam_cells]; omega)) [lenw, Nat.min_self, -List.length_flatMap], by simp -implicitDefEqProofs (disch := first | (refine NE.mk ?_; first | omega | assumption) | (refine LTn.mk ?_; omega) | (refine NFam.mk ?_; simp only [updO_same, notFam_cells]; omega)) [lenw, Nat.min_self, -List.length_flatMap], by simp -implicitDefEqProofs (disch := first | (refine NE.mk ?_; first | omega | assumption) | (refine LTn.mk ?_; omega) | (refine NFam.mk ?_; simp only [updO_same, notFam_cells]; omega)) [lenw, Nat.min_self, -List.length_flatMap], by simp -implicitDefEqProofs (disch := first | (refine NE.mk ?_; first | omega | assumption) | (refine LTn.mk ?_; omega) | (refine NFam.mk ?_; simp only [updO_same, notFam_cells]; omega)) [lenw, Nat.min_self, -List.length_flatMap], by simp -implicitDefEqProofs (disch := first | (refine NE.mk ?_; first | omega | assumption) | (refine LTn.mk ?_; omega) | (refine NFam.mk ?_; simp only [updO_same, notFam_cells]; omega)) [lenw, Nat.min_self, -List.length_flatMap], rfl, D0.keep (by (try dsimp only [keepOnly_eq]); omega) fun i hi => (by simp -implicitDefEqProofs (disch := first | (refine NE.mk ?_; first | omega | assumption) | (refine LTn.mk ?_; omega) | (refine NFam.mk ?_; simp only [updO_same, notFam_cells]; omega)) [lenw, Nat.min_self, -List.length_flatMap]), M.w, fun k _ h => by omega⟩
  · clear D0 lenw
    rintro k s Q2 ⟨i, w, hk, t1, t2, t7, t8, t9, t30, t31, hwl, D, hw, hneg⟩ hN hE hR
    have M' : Made m.length m w p := ⟨M.n6, M.ml, by rw [hwl]; exact M.wl, M.pl, M.m, hw, M.p, M.pd⟩
    refine s5_9 ?_
    simp -implicitDefEqProofs (disch := first | (refine NE.mk ?_; first | omega | assumption) | (refine LTn.mk ?_; omega) | (refine NFam.mk ?_; simp only [updO_same, notFam_cells]; omega)) [↓h5_10, t1, t2, t7, t8, t9, t30, t31, Nat.min_self, -List.length_flatMap]
    refine s5_11 ?_
    simp -implicitDefEqProofs (disch := first | (refine NE.mk ?_; first | omega | assumption) | (refine LTn.mk ?_; omega) | (refine NFam.mk ?_; simp only [updO_same, notFam_cells]; omega)) [t1, t2, t7, t8, t9, t30, t31, Nat.min_self, -List.length_flatMap]
    split
    · rename_i hi
      obtain ⟨jw, fw', row, ew, ww, csw, rfl, hjw, hcw, hlw, hgw1, hgw2, hgw3⟩ := D.w.view.get enW_len (i := i) (by omega)
      rcases D.w with ⟨hx, _⟩ | ⟨q, hq, ho, hq1, hq2, hq3⟩
      · cases hx
      cases hq
      have hi' : i < w.length := by omega
      have hcs : w.flatMap enW = csw := by
        have := ho.symm.trans hcw
        simp at this
        exact this.2.2.2.2
      have hlen : i * 4 + 3 < (w.flatMap enW).length := by rw [hcs]; omega
      have gs : (w.flatMap enW).set (i * 4 + 3) (.int .i64 (-1)) = (w.set i ⟨w[i].f, w[i].t, w[i].mn, -1⟩).flatMap enW := rows_set1 enW_len w hi' (by omega) rfl
      have w1 := wrap64 (show -9223372036854775808 ≤ (i : Int) + 1 by have := M'.wl; have := M'.n6; omega) (by have := M'.wl; have := M'.n6; omega)
      refine s5_13 ?_
      refine s5_14 ?_
      refine s5_15 ?_
      simp -implicitDefEqProofs (disch := first | (refine NE.mk ?_; first | omega | assumption) | (refine LTn.mk ?_; omega) | (refine NFam.mk ?_; simp only [ho, hlen, gs, hwl, updO_same, notFam_cells]; omega)) [↓h5_16, t1, t2, t7, t8, t9, t30, t31, hi, hi', ho, hlen, gs, hwl, w1, Nat.min_self, -List.length_flatMap]
      refine s5_17 ?_
      simp -implicitDefEqProofs (disch := first | (refine NE.mk ?_; first | omega | assumption) | (refine LTn.mk ?_; omega) | (refine NFam.mk ?_; simp only [ho, hlen, gs, hwl, updO_same, notFam_cells]; omega)) [↓h5_17, t1, t2, t7, t8, t9, t30, t31, hi, hi', ho, hlen, gs, hwl, w1, Nat.min_self, -List.length_flatMap]
      refine s5_18 ?_
      simp -implicitDefEqProofs (disch := first | (refine NE.mk ?_; first | omega | assumption) | (refine LTn.mk ?_; omega) | (refine NFam.mk ?_; simp only [ho, hlen, gs, hwl, updO_same, notFam_cells]; omega)) [↓h5_18, t1, t2, t7, t8, t9, t30, t31, hi, hi', ho, hlen, gs, hwl, w1, Nat.min_self, -List.length_flatMap]
      refine hN (k - 1) _ (by omega) ?_
      dsimp only [keepOnly_eq]
      refine ⟨i + 1, w.set i ⟨w[i].f, w[i].t, w[i].mn, -1⟩, by omega, by simp -implicitDefEqProofs (disch := first | (refine NE.mk ?_; first | omega | assumption) | (refine LTn.mk ?_; omega) | (refine NFam.mk ?_; simp only [ho, hlen, gs, hwl, updO_same, notFam_cells]; omega)) [t1, t2, t7, t8, t9, t30, t31, hi, hi', ho, hlen, gs, hwl, w1, Nat.min_self, -List.length_flatMap], by simp -implicitDefEqProofs (disch := first | (refine NE.mk ?_; first | omega | assumption) | (refine LTn.mk ?_; omega) | (refine NFam.mk ?_; simp only [ho, hlen, gs, hwl, updO_same, notFam_cells]; omega)) [t1, t2, t7, t8, t9, t30, t31, hi, hi', ho, hlen, gs, hwl, w1, Nat.min_self, -List.length_flatMap], by simp -implicitDefEqProofs (disch := first | (refine NE.mk ?_; first | omega | assumption) | (refine LTn.mk ?_; omega) | (refine NFam.mk ?_; simp only [ho, hlen, gs, hwl, updO_same, notFam_cells]; omega)) [t1, t2, t7, t8, t9, t30, t31, hi, hi', ho, hlen, gs, hwl, w1, Nat.min_self, -List.length_flatMap], by simp -implicitDefEqProofs (disch := first | (refine NE.mk ?_; first | omega | assumption) | (refine LTn.mk ?_; omega) | (refine NFam.mk ?_; simp only [ho, hlen, gs, hwl, updO_same, notFam_cells]; omega)) [t1, t2, t7, t8, t9, t30, t31, hi, hi', ho, hlen, gs, hwl, w1, Nat.min_self, -List.length_flatMap], by simp -implicitDefEqProofs (disch := first | (refine NE.mk ?_; first | omega | assumption) | (refine LTn.mk ?_; omega) | (refine NFam.mk ?_; simp only [ho, hlen, gs, hwl, updO_same, notFam_cells]; omega)) [t1, t2, t7, t8, t9, t30, t31, hi, hi', ho, hlen, gs, hwl, w1, Nat.min_self, -List.length_flatMap], by simp -implicitDefEqProofs (disch := first | (refine NE.mk ?_; first | omega | assumption) | (refine LTn.mk ?_; omega) | (refine NFam.mk ?_; simp only [ho, hlen, gs, hwl, updO_same, notFam_cells]; omega)) [t1, t2, t7, t8, t9, t30, t31, hi, hi', ho, hlen, gs, hwl, w1, Nat.min_self, -List.length_flatMap], by simp -implicitDefEqProofs (disch := first | (refine NE.mk ?_; first | omega | assumption) | (refine LTn.mk ?_; omega) | (refine NFam.mk ?_; simp only [ho, hlen, gs, hwl, updO_same, notFam_cells]; omega)) [t1, t2, t7, t8, t9, t30, t31, hi, hi', ho, hlen, gs, hwl, w1, Nat.min_self, -List.length_flatMap], by simp [hwl], ?_, fun x hx => ?_, fun k hk hki => ?_⟩
      · refine D.storeW rfl ho (by simp) ?_
        omega
      · rcases List.mem_or_eq_of_mem_set hx with hx | rfl
        · exact hw x hx
        · have := hw _ (List.getElem_mem hi')
          unfold okW at this ⊢
          (try dsimp only); omega
      · rw [List.getElem_set]
        split
        · rfl
        · exact hneg k (by simpa using hk) (by omega)
    · rename_i hi
      have hall : ∀ x ∈ w, x.ms = -1 := fun x hx => by
        obtain ⟨k, hk, rfl⟩ := List.mem_iff_getElem.1 hx
        exact hneg k hk (by omega)
      refine hE 0 _ ?_
      (try simp -implicitDefEqProofs (disch := first | (refine NE.mk ?_; first | omega | assumption) | (refine LTn.mk ?_; omega) | (refine NFam.mk ?_; simp only [updO_same, notFam_cells]; omega)) [t1, t2, t7, t8, t9, t30, t31, Nat.min_self, -List.length_flatMap])
      refine s5_19 ?_
      simp -implicitDefEqProofs (disch := first | (refine NE.mk ?_; first | omega | assumption) | (refine LTn.mk ?_; omega) | (refine NFam.mk ?_; simp only [updO_same, notFam_cells]; omega)) [↓h5_20, ↓h5_20_1, t1, t2, t7, t8, t9, t30, t31, Nat.min_self, -List.length_flatMap]
      have M3 : Made m.length m w p := M'
      have V := M3.valid
      refine wF_mono (lift5 (k13 xm xw xp m w p _ (D.m.view.keep (by (try dsimp only [keepOnly_eq]); omega) fun i hi => rfl) (D.w.view.keep (by (try dsimp only [keepOnly_eq]); omega) fun i hi => rfl) (D.p.view.keep (by (try dsimp only [keepOnly_eq]); omega) fun i hi => rfl) (by have := V.ml; omega) (by have := V.wl; omega) (by have := V.pl; omega))) ?_
      rintro _ h2 ⟨⟨hV, _⟩ | ⟨y, z, b, a, kp, _, P, rfl, vy, vz⟩, hn2, ho2⟩
      · exact absurd V hV
      (try dsimp only at hn2 ho2)
      have vm := D.m.view.keep (n' := h2.nx) (o' := h2.o) (by omega) (fun i hi => ho2 i (by omega))
      have vw := D.w.view.keep (n' := h2.nx) (o' := h2.o) (by omega) (fun i hi => ho2 i (by omega))
      have vp := D.p.view.keep (n' := h2.nx) (o' := h2.o) (by omega) (fun i hi => ho2 i (by omega))
      have lenm := vm.lenV (fs := fl5) (out := out)
      have lenp := vp.lenV (fs := fl5) (out := out)
      have leny := vy.lenV (fs := fl5) (out := out)
      rw [vl_len] at leny
      have hlew : h2.le h2 := AH.le_refl _
      clear D hn2 ho2 hneg hi hk
      (try simp -implicitDefEqProofs (disch := first | (refine NE.mk ?_; first | omega | assumption) | (refine LTn.mk ?_; omega) | (refine NFam.mk ?_; simp only [updO_same, notFam_cells]; omega)) [↓h5_20, ↓h5_20_1, t1, t2, t7, t8, t9, t30, t31, lenm, leny, Nat.min_self, -List.length_flatMap])
      refine s5_21 ?_
      simp -implicitDefEqProofs (disch := first | (refine NE.mk ?_; first | omega | assumption) | (refine LTn.mk ?_; omega) | (refine NFam.mk ?_; simp only [updO_same, notFam_cells]; omega)) [↓h5_22, ↓h5_22_1, t1, t2, t7, t8, t9, t30, t31, lenm, leny, Nat.min_self, -List.length_flatMap]
      have hd := pickN_range by' (show (1 : Int) ≤ 500 by omega)
      have hmn : m.length ≠ 0 := by have := M'.ml; omega
      have hi0 := pickN_range at' (show (1 : Int) ≤ m.length by omega)
      refine wF_mono (lift5 (k15 by' 500 (by omega) (by omega) _)) ?_
      rintro _ h3 ⟨rfl, hn3, ho3⟩
      (try dsimp only at hn3 ho3)
      (try simp -implicitDefEqProofs (disch := first | (refine NE.mk ?_; first | omega | assumption) | (refine LTn.mk ?_; omega) | (refine NFam.mk ?_; simp only [updO_same, notFam_cells]; omega)) [↓h5_22, ↓h5_22_1, t1, t2, t7, t8, t9, t30, t31, lenm, leny, Nat.min_self, -List.length_flatMap])
      refine s5_23 ?_
      simp -implicitDefEqProofs (disch := first | (refine NE.mk ?_; first | omega | assumption) | (refine LTn.mk ?_; omega) | (refine NFam.mk ?_; simp only [updO_same, notFam_cells]; omega)) [↓h5_24, ↓h5_24_1, t1, t2, t7, t8, t9, t30, t31, lenm, leny, Nat.min_self, -List.length_flatMap]
      refine wF_mono (lift5 (k15 at' m.length (by omega) (by have := V.ml; omega) _)) ?_
      rintro _ h4 ⟨rfl, hn4, ho4⟩
      (try dsimp only at hn4 ho4)
      obtain ⟨d, hde⟩ : ∃ d, d = pickN by' 500 := ⟨_, rfl⟩
      obtain ⟨i0, hie⟩ : ∃ i, i = pickN at' m.length := ⟨_, rfl⟩
      rw [← hde] at hd ⊢
      rw [← hie] at hi0 ⊢
      have g4 : ∀ i, i < h2.nx → h4.o i = h2.o i := fun i hi => by rw [ho4 i (by omega), ho3 i (by omega)]
      (try simp -implicitDefEqProofs (disch := first | (refine NE.mk ?_; first | omega | assumption) | (refine LTn.mk ?_; omega) | (refine NFam.mk ?_; simp only [updO_same, notFam_cells]; omega)) [↓h5_24, ↓h5_24_1, t1, t2, t7, t8, t9, t30, t31, lenm, leny, Nat.min_self, -List.length_flatMap])
      refine s5_25 ?_
      simp -implicitDefEqProofs (disch := first | (refine NE.mk ?_; first | omega | assumption) | (refine LTn.mk ?_; omega) | (refine NFam.mk ?_; simp only [updO_same, notFam_cells]; omega)) [↓h5_26, ↓h5_26_1, t1, t2, t7, t8, t9, t30, t31, lenm, leny, Nat.min_self, -List.length_flatMap]
      have vp4 := vp.keep (n' := h2.nx) (o' := h4.o) (Nat.le_refl _) g4
      refine app_own (f := h2.nx) (lo := h2.nx) (n := h2.nx) (x := .nils) (l := []) (l2 := p) (enc := enPr) ?_ ?_ Own.nil (vp4.src enPr_len) enPr_len enPr_solid (show 0 < 2 by omega) ⟨?_, ?_⟩ ?_
      · (try dsimp only)
        omega
      · (try dsimp only)
        omega
      · simp; have := V.pl; omega
      · simp; have := V.pl; omega
      rintro x' f' o' O' hf' ho'
      rw [List.nil_append] at O'
      (try dsimp only at ho' O')
      have g5 : ∀ i, i < h2.nx → o' i = h2.o i := fun i hi => by rw [ho' i (by omega) (.inl hi), g4 i hi]
      clear ho' g4 ho4 ho3 vp4
      have lenx := O'.view.lenV (fs := fl5) (out := out)
      (try simp -implicitDefEqProofs (disch := first | (refine NE.mk ?_; first | omega | assumption) | (refine LTn.mk ?_; omega) | (refine NFam.mk ?_; simp only [updO_same, notFam_cells]; omega)) [↓h5_26, ↓h5_26_1, t1, t2, t7, t8, t9, t30, t31, lenm, leny, lenx, Nat.min_self, -List.length_flatMap])
      refine s5_27 ?_
      simp -implicitDefEqProofs (disch := first | (refine NE.mk ?_; first | omega | assumption) | (refine LTn.mk ?_; omega) | (refine NFam.mk ?_; simp only [updO_same, notFam_cells]; omega)) [↓h5_28, t1, t2, t7, t8, t9, t30, t31, lenm, leny, lenx, Nat.min_self, -List.length_flatMap]
      refine s5_29 ?_
      refine s5_30 ?_
      simp -implicitDefEqProofs (disch := first | (refine NE.mk ?_; first | omega | assumption) | (refine LTn.mk ?_; omega) | (refine NFam.mk ?_; simp only [updO_same, notFam_cells]; omega)) [↓h5_31, t1, t2, t7, t8, t9, t30, t31, lenm, leny, lenx, Nat.min_self, -List.length_flatMap]
      refine s5_32 ?_
      have hml := V.ml
      have hpl := V.pl
      have addE : ∀ x : Pr, x.m = i0 → addP i0 d x = ⟨i0, x.s + d⟩ := fun x h => by unfold addP; rw [if_pos h, h]
      refine s5_33 (fun k s => ∃ (i : Nat) (L : List Pr) (f : Nat), i + k = p.length ∧ s.t 7 = .v (.one (xm)) ∧ s.t 8 = .v (.one (xw)) ∧ s.t 11 = .v (.one (y)) ∧ s.t 13 = .v (.one (.int .i64 (0))) ∧ s.t 14 = .v (.one (.int .i64 (d))) ∧ s.t 15 = .v (.one (.int .i64 (i0))) ∧ s.t 16 = .v (.one (x')) ∧ s.t 17 = .v (.one (.bool (anyP i0 (p.take i)))) ∧ s.t 56 = .v (.one (.int .i64 (p.length))) ∧ s.t 57 = .v (.one (.int .i64 (i))) ∧ L.length = p.length ∧ Own s.h.o h2.nx s.h.nx x' 39 2 enPr L f ∧ h2.le s.h ∧ ∀ (k : Nat) (hk : k < p.length) (hL : k < L.length), L[k] = if k < i then addP i0 d p[k] else p[k]) p.length ?_ ?_
      · skip
        exact ⟨0, p, f', by omega, by simp -implicitDefEqProofs (disch := first | (refine NE.mk ?_; first | omega | assumption) | (refine LTn.mk ?_; omega) | (refine NFam.mk ?_; simp only [anyP_nil, updO_same, notFam_cells]; omega)) [t1, t2, t7, t8, t9, t30, t31, lenm, leny, lenx, anyP_nil, Nat.min_self, -List.length_flatMap], by simp -implicitDefEqProofs (disch := first | (refine NE.mk ?_; first | omega | assumption) | (refine LTn.mk ?_; omega) | (refine NFam.mk ?_; simp only [anyP_nil, updO_same, notFam_cells]; omega)) [t1, t2, t7, t8, t9, t30, t31, lenm, leny, lenx, anyP_nil, Nat.min_self, -List.length_flatMap], by simp -implicitDefEqProofs (disch := first | (refine NE.mk ?_; first | omega | assumption) | (refine LTn.mk ?_; omega) | (refine NFam.mk ?_; simp only [anyP_nil, updO_same, notFam_cells]; omega)) [t1, t2, t7, t8, t9, t30, t31, lenm, leny, lenx, anyP_nil, Nat.min_self, -List.length_flatMap], by simp -implicitDefEqProofs (disch := first | (refine NE.mk ?_; first | omega | assumption) | (refine LTn.mk ?_; omega) | (refine NFam.mk ?_; simp only [anyP_nil, updO_same, notFam_cells]; omega)) [t1, t2, t7, t8, t9, t30, t31, lenm, leny, lenx, anyP_nil, Nat.min_self, -List.length_flatMap], by simp -implicitDefEqProofs (disch := first | (refine NE.mk ?_; first | omega | assumption) | (refine LTn.mk ?_; omega) | (refine NFam.mk ?_; simp only [anyP_nil, updO_same, notFam_cells]; omega)) [t1, t2, t7, t8, t9, t30, t31, lenm, leny, lenx, anyP_nil, Nat.min_self, -List.length_flatMap], by simp -implicitDefEqProofs (disch := first | (refine NE.mk ?_; first | omega | assumption) | (refine LTn.mk ?_; omega) | (refine NFam.mk ?_; simp only [anyP_nil, updO_same, notFam_cells]; omega)) [t1, t2, t7, t8, t9, t30, t31, lenm, leny, lenx, anyP_nil, Nat.min_self, -List.length_flatMap], by simp -implicitDefEqProofs (disch := first | (refine NE.mk ?_; first | omega | assumption) | (refine LTn.mk ?_; omega) | (refine NFam.mk ?_; simp only [anyP_nil, updO_same, notFam_cells]; omega)) [t1, t2, t7, t8, t9, t30, t31, lenm, leny, lenx, anyP_nil, Nat.min_self, -List.length_flatMap], by simp -implicitDefEqProofs (disch := first | (refine NE.mk ?_; first | omega | assumption) | (refine LTn.mk ?_; omega) | (refine NFam.mk ?_; simp only [anyP_nil, updO_same, notFam_cells]; omega)) [t1, t2, t7, t8, t9, t30, t31, lenm, leny, lenx, anyP_nil, Nat.min_self, -List.length_flatMap], by simp -implicitDefEqProofs (disch := first | (refine NE.mk ?_; first | omega | assumption) | (refine LTn.mk ?_; omega) | (refine NFam.mk ?_; simp only [anyP_nil, updO_same, notFam_cells]; omega)) [t1, t2, t7, t8, t9, t30, t31, lenm, leny, lenx, anyP_nil, Nat.min_self, -List.length_flatMap], by simp -implicitDefEqProofs (disch := first | (refine NE.mk ?_; first | omega | assumption) | (refine LTn.mk ?_; omega) | (refine NFam.mk ?_; simp only [anyP_nil, updO_same, notFam_cells]; omega)) [t1, t2, t7, t8, t9, t30, t31, lenm, leny, lenx, anyP_nil, Nat.min_self, -List.length_flatMap], rfl, O'.keep' (by (try dsimp only [keepOnly_eq]); omega) fun i hi => (by simp -implicitDefEqProofs (disch := first | (refine NE.mk ?_; first | omega | assumption) | (refine LTn.mk ?_; omega) | (refine NFam.mk ?_; simp only [anyP_nil, updO_same, notFam_cells]; omega)) [t1, t2, t7, t8, t9, t30, t31, lenm, leny, lenx, anyP_nil, Nat.min_self, -List.length_flatMap]), ⟨(by (try dsimp only [keepOnly_eq]); omega), g5⟩, fun k hk hL => by simp⟩
      · clear t1 t2 t7 t8 t9 t30 t31 lenx O' g5 hf' o' f' hn3 hn4 h3 h4
        rintro k s Q2 ⟨i, L, f, hk, t7, t8, t11, t13, t14, t15, t16, t17, t56, t57, hL, O, ⟨hn, ho⟩, hg⟩ hN hE hR
        refine s5_34 ?_
        simp -implicitDefEqProofs (disch := first | (refine NE.mk ?_; first | omega | assumption) | (refine LTn.mk ?_; omega) | (refine NFam.mk ?_; simp only [updO_same, notFam_cells]; omega)) [↓h5_35, t7, t8, t11, t13, t14, t15, t16, t17, t56, t57, Nat.min_self, -List.length_flatMap]
        refine s5_36 ?_
        simp -implicitDefEqProofs (disch := first | (refine NE.mk ?_; first | omega | assumption) | (refine LTn.mk ?_; omega) | (refine NFam.mk ?_; simp only [updO_same, notFam_cells]; omega)) [t7, t8, t11, t13, t14, t15, t16, t17, t56, t57, Nat.min_self, -List.length_flatMap]
        split
        · rename_i hi
          have hi' : i < L.length := by omega
          rcases O with ⟨rfl, rfl⟩ | ⟨q, rfl, hq, hq1, hq2, hq3⟩
          · simp at hi'
          have hl2 := rows_len enPr_len L
          have l1 : i * 2 < (L.flatMap enPr).length := by omega
          have l2 : i * 2 + 1 < (L.flatMap enPr).length := by omega
          have hLi : L[i] = p[i] := by have := hg i hi hi'; rwa [if_neg (by omega)] at this
          have g1 : (L.flatMap enPr)[i * 2]? = some (.int .i64 p[i].m) := by rw [← hLi]; exact rows_get1 enPr_len L hi' (by omega : 0 < 2)
          have g2 : (L.flatMap enPr)[i * 2 + 1]? = some (.int .i64 p[i].s) := by rw [← hLi]; exact rows_get1 enPr_len L hi' (by omega : 1 < 2)
          have hpo := M'.p _ (List.getElem_mem hi)
          unfold okR at hpo
          have w1 := wrap64 (show -9223372036854775808 ≤ (i : Int) + 1 by omega) (by omega)
          have w2 := wrap64 (show -9223372036854775808 ≤ p[i].s + d by omega) (by omega)
          have a1 := anyP_step (i := i0) hi
          refine s5_38 ?_
          refine s5_39 ?_
          refine s5_40 ?_
          simp -implicitDefEqProofs (disch := first | (refine NE.mk ?_; first | omega | assumption) | (refine LTn.mk ?_; omega) | (refine NFam.mk ?_; simp only [hL, hq, l1, l2, g1, g2, updO_same, notFam_cells]; omega)) [↓h5_41, t7, t8, t11, t13, t14, t15, t16, t17, t56, t57, hL, hi, hi', hq, l1, l2, g1, g2, w1, w2, Nat.min_self, -List.length_flatMap]
          refine s5_42 ?_
          simp -implicitDefEqProofs (disch := first | (refine NE.mk ?_; first | omega | assumption) | (refine LTn.mk ?_; omega) | (refine NFam.mk ?_; simp only [hL, hq, l1, l2, g1, g2, updO_same, notFam_cells]; omega)) [↓h5_43, t7, t8, t11, t13, t14, t15, t16, t17, t56, t57, hL, hi, hi', hq, l1, l2, g1, g2, w1, w2, Nat.min_self, -List.length_flatMap]
          refine s5_44 ?_
          simp -implicitDefEqProofs (disch := first | (refine NE.mk ?_; first | omega | assumption) | (refine LTn.mk ?_; omega) | (refine NFam.mk ?_; simp only [hL, hq, l1, l2, g1, g2, updO_same, notFam_cells]; omega)) [t7, t8, t11, t13, t14, t15, t16, t17, t56, t57, hL, hi, hi', hq, l1, l2, g1, g2, w1, w2, Nat.min_self, -List.length_flatMap]
          by_cases hxi : p[i].m = i0
          · have gs : (L.flatMap enPr).set (i * 2 + 1) (.int .i64 (p[i].s + d)) = (L.set i (addP i0 d p[i])).flatMap enPr := by
              refine rows_set1 enPr_len L hi' (by omega : 1 < 2) ?_
              rw [hLi, addE _ hxi, ← hxi]; rfl
            rw [decide_eq_true hxi, Bool.or_true] at a1
            (try simp -implicitDefEqProofs (disch := first | (refine NE.mk ?_; first | omega | assumption) | (refine LTn.mk ?_; omega) | (refine NFam.mk ?_; simp only [hL, hq, l1, l2, g1, g2, hxi, gs, a1, updO_same, notFam_cells]; omega)) [t7, t8, t11, t13, t14, t15, t16, t17, t56, t57, hL, hi, hi', hq, l1, l2, g1, g2, w1, w2, hxi, gs, a1, Nat.min_self, -List.length_flatMap])
            refine s5_45 ?_
            simp -implicitDefEqProofs (disch := first | (refine NE.mk ?_; first | omega | assumption) | (refine LTn.mk ?_; omega) | (refine NFam.mk ?_; simp only [hL, hq, l1, l2, g1, g2, hxi, gs, a1, updO_same, notFam_cells]; omega)) [↓h5_46, t7, t8, t11, t13, t14, t15, t16, t17, t56, t57, hL, hi, hi', hq, l1, l2, g1, g2, w1, w2, hxi, gs, a1, Nat.min_self, -List.length_flatMap]
            refine s5_47 ?_
            simp -implicitDefEqProofs (disch := first | (refine NE.mk ?_; first | omega | assumption) | (refine LTn.mk ?_; omega) | (refine NFam.mk ?_; simp only [hL, hq, l1, l2, g1, g2, hxi, gs, a1, updO_same, notFam_cells]; omega)) [↓h5_47, t7, t8, t11, t13, t14, t15, t16, t17, t56, t57, hL, hi, hi', hq, l1, l2, g1, g2, w1, w2, hxi, gs, a1, Nat.min_self, -List.length_flatMap]
            refine s5_48 ?_
            simp -implicitDefEqProofs (disch := first | (refine NE.mk ?_; first | omega | assumption) | (refine LTn.mk ?_; omega) | (refine NFam.mk ?_; simp only [hL, hq, l1, l2, g1, g2, hxi, gs, a1, updO_same, notFam_cells]; omega)) [↓h5_48, t7, t8, t11, t13, t14, t15, t16, t17, t56, t57, hL, hi, hi', hq, l1, l2, g1, g2, w1, w2, hxi, gs, a1, Nat.min_self, -List.length_flatMap]
            refine hN (k - 1) _ (by omega) ?_
            dsimp only [keepOnly_eq]
            refine ⟨i + 1, L.set i (addP i0 d p[i]), f, by omega, by simp -implicitDefEqProofs (disch := first | (refine NE.mk ?_; first | omega | assumption) | (refine LTn.mk ?_; omega) | (refine NFam.mk ?_; simp only [hL, hq, l1, l2, g1, g2, hxi, gs, a1, updO_same, notFam_cells]; omega)) [t7, t8, t11, t13, t14, t15, t16, t17, t56, t57, hL, hi, hi', hq, l1, l2, g1, g2, w1, w2, hxi, gs, a1, Nat.min_self, -List.length_flatMap], by simp -implicitDefEqProofs (disch := first | (refine NE.mk ?_; first | omega | assumption) | (refine LTn.mk ?_; omega) | (refine NFam.mk ?_; simp only [hL, hq, l1, l2, g1, g2, hxi, gs, a1, updO_same, notFam_cells]; omega)) [t7, t8, t11, t13, t14, t15, t16, t17, t56, t57, hL, hi, hi', hq, l1, l2, g1, g2, w1, w2, hxi, gs, a1, Nat.min_self, -List.length_flatMap], by simp -implicitDefEqProofs (disch := first | (refine NE.mk ?_; first | omega | assumption) | (refine LTn.mk ?_; omega) | (refine NFam.mk ?_; simp only [hL, hq, l1, l2, g1, g2, hxi, gs, a1, updO_same, notFam_cells]; omega)) [t7, t8, t11, t13, t14, t15, t16, t17, t56, t57, hL, hi, hi', hq, l1, l2, g1, g2, w1, w2, hxi, gs, a1, Nat.min_self, -List.length_flatMap], by simp -implicitDefEqProofs (disch := first | (refine NE.mk ?_; first | omega | assumption) | (refine LTn.mk ?_; omega) | (refine NFam.mk ?_; simp only [hL, hq, l1, l2, g1, g2, hxi, gs, a1, updO_same, notFam_cells]; omega)) [t7, t8, t11, t13, t14, t15, t16, t17, t56, t57, hL, hi, hi', hq, l1, l2, g1, g2, w1, w2, hxi, gs, a1, Nat.min_self, -List.length_flatMap], by simp -implicitDefEqProofs (disch := first | (refine NE.mk ?_; first | omega | assumption) | (refine LTn.mk ?_; omega) | (refine NFam.mk ?_; simp only [hL, hq, l1, l2, g1, g2, hxi, gs, a1, updO_same, notFam_cells]; omega)) [t7, t8, t11, t13, t14, t15, t16, t17, t56, t57, hL, hi, hi', hq, l1, l2, g1, g2, w1, w2, hxi, gs, a1, Nat.min_self, -List.length_flatMap], by simp -implicitDefEqProofs (disch := first | (refine NE.mk ?_; first | omega | assumption) | (refine LTn.mk ?_; omega) | (refine NFam.mk ?_; simp only [hL, hq, l1, l2, g1, g2, hxi, gs, a1, updO_same, notFam_cells]; omega)) [t7, t8, t11, t13, t14, t15, t16, t17, t56, t57, hL, hi, hi', hq, l1, l2, g1, g2, w1, w2, hxi, gs, a1, Nat.min_self, -List.length_flatMap], by simp -implicitDefEqProofs (disch := first | (refine NE.mk ?_; first | omega | assumption) | (refine LTn.mk ?_; omega) | (refine NFam.mk ?_; simp only [hL, hq, l1, l2, g1, g2, hxi, gs, a1, updO_same, notFam_cells]; omega)) [t7, t8, t11, t13, t14, t15, t16, t17, t56, t57, hL, hi, hi', hq, l1, l2, g1, g2, w1, w2, hxi, gs, a1, Nat.min_self, -List.length_flatMap], by simp -implicitDefEqProofs (disch := first | (refine NE.mk ?_; first | omega | assumption) | (refine LTn.mk ?_; omega) | (refine NFam.mk ?_; simp only [hL, hq, l1, l2, g1, g2, hxi, gs, a1, updO_same, notFam_cells]; omega)) [t7, t8, t11, t13, t14, t15, t16, t17, t56, t57, hL, hi, hi', hq, l1, l2, g1, g2, w1, w2, hxi, gs, a1, Nat.min_self, -List.length_flatMap], by simp -implicitDefEqProofs (disch := first | (refine NE.mk ?_; first | omega | assumption) | (refine LTn.mk ?_; omega) | (refine NFam.mk ?_; simp only [hL, hq, l1, l2, g1, g2, hxi, gs, a1, updO_same, notFam_cells]; omega)) [t7, t8, t11, t13, t14, t15, t16, t17, t56, t57, hL, hi, hi', hq, l1, l2, g1, g2, w1, w2, hxi, gs, a1, Nat.min_self, -List.length_flatMap], by simp -implicitDefEqProofs (disch := first | (refine NE.mk ?_; first | omega | assumption) | (refine LTn.mk ?_; omega) | (refine NFam.mk ?_; simp only [hL, hq, l1, l2, g1, g2, hxi, gs, a1, updO_same, notFam_cells]; omega)) [t7, t8, t11, t13, t14, t15, t16, t17, t56, t57, hL, hi, hi', hq, l1, l2, g1, g2, w1, w2, hxi, gs, a1, Nat.min_self, -List.length_flatMap], by simp [hL], .inr ⟨q, by simp, by simp -implicitDefEqProofs (disch := first | (refine NE.mk ?_; first | omega | assumption) | (refine LTn.mk ?_; omega) | (refine NFam.mk ?_; simp only [hL, hq, l1, l2, g1, g2, hxi, gs, a1, updO_same, notFam_cells]; omega)) [t7, t8, t11, t13, t14, t15, t16, t17, t56, t57, hL, hi, hi', hq, l1, l2, g1, g2, w1, w2, hxi, gs, a1, Nat.min_self, -List.length_flatMap], hq1, hq2, (by (try dsimp only [keepOnly_eq]); omega)⟩, ⟨(by (try dsimp only [keepOnly_eq]); omega), fun v hv => ?_⟩, fun k hk hL' => ?_⟩
            · exact (updK (by omega) (.inl (by omega))).trans (ho v hv)
            · rw [List.getElem_set]
              by_cases e : i = k
              · subst e; rw [if_pos rfl, if_pos (by omega)]
              · rw [if_neg e, hg k hk (by omega)]
                by_cases e2 : k < i
                · rw [if_pos e2, if_pos (by omega)]
                · rw [if_neg e2, if_neg (by omega)]
          · have hxi' := eq_false hxi
            rw [decide_eq_false hxi, Bool.or_false] at a1
            have hae : addP i0 d p[i] = p[i] := by unfold addP; rw [if_neg hxi]
            (try simp -implicitDefEqProofs (disch := first | (refine NE.mk ?_; first | omega | assumption) | (refine LTn.mk ?_; omega) | (refine NFam.mk ?_; simp only [hL, hq, l1, l2, g1, g2, hxi', a1, updO_same, notFam_cells]; omega)) [t7, t8, t11, t13, t14, t15, t16, t17, t56, t57, hL, hi, hi', hq, l1, l2, g1, g2, w1, w2, hxi', a1, Nat.min_self, -List.length_flatMap])
            refine s5_48 ?_
            simp -implicitDefEqProofs (disch := first | (refine NE.mk ?_; first | omega | assumption) | (refine LTn.mk ?_; omega) | (refine NFam.mk ?_; simp only [hL, hq, l1, l2, g1, g2, hxi', a1, updO_same, notFam_cells]; omega)) [↓h5_48, t7, t8, t11, t13, t14, t15, t16, t17, t56, t57, hL, hi, hi', hq, l1, l2, g1, g2, w1, w2, hxi', a1, Nat.min_self, -List.length_flatMap]
            refine hN (k - 1) _ (by omega) ?_
            dsimp only [keepOnly_eq]
            refine ⟨i + 1, L, f, by omega, by simp -implicitDefEqProofs (disch := first | (refine NE.mk ?_; first | omega | assumption) | (refine LTn.mk ?_; omega) | (refine NFam.mk ?_; simp only [hL, hq, l1, l2, g1, g2, hxi', a1, updO_same, notFam_cells]; omega)) [t7, t8, t11, t13, t14, t15, t16, t17, t56, t57, hL, hi, hi', hq, l1, l2, g1, g2, w1, w2, hxi', a1, Nat.min_self, -List.length_flatMap], by simp -implicitDefEqProofs (disch := first | (refine NE.mk ?_; first | omega | assumption) | (refine LTn.mk ?_; omega) | (refine NFam.mk ?_; simp only [hL, hq, l1, l2, g1, g2, hxi', a1, updO_same, notFam_cells]; omega)) [t7, t8, t11, t13, t14, t15, t16, t17, t56, t57, hL, hi, hi', hq, l1, l2, g1, g2, w1, w2, hxi', a1, Nat.min_self, -List.length_flatMap], by simp -implicitDefEqProofs (disch := first | (refine NE.mk ?_; first | omega | assumption) | (refine LTn.mk ?_; omega) | (refine NFam.mk ?_; simp only [hL, hq, l1, l2, g1, g2, hxi', a1, updO_same, notFam_cells]; omega)) [t7, t8, t11, t13, t14, t15, t16, t17, t56, t57, hL, hi, hi', hq, l1, l2, g1, g2, w1, w2, hxi', a1, Nat.min_self, -List.length_flatMap], by simp -implicitDefEqProofs (disch := first | (refine NE.mk ?_; first | omega | assumption) | (refine LTn.mk ?_; omega) | (refine NFam.mk ?_; simp only [hL, hq, l1, l2, g1, g2, hxi', a1, updO_same, notFam_cells]; omega)) [t7, t8, t11, t13, t14, t15, t16, t17, t56, t57, hL, hi, hi', hq, l1, l2, g1, g2, w1, w2, hxi', a1, Nat.min_self, -List.length_flatMap], by simp -implicitDefEqProofs (disch := first | (refine NE.mk ?_; first | omega | assumption) | (refine LTn.mk ?_; omega) | (refine NFam.mk ?_; simp only [hL, hq, l1, l2, g1, g2, hxi', a1, updO_same, notFam_cells]; omega)) [t7, t8, t11, t13, t14, t15, t16, t17, t56, t57, hL, hi, hi', hq, l1, l2, g1, g2, w1, w2, hxi', a1, Nat.min_self, -List.length_flatMap], by simp -implicitDefEqProofs (disch := first | (refine NE.mk ?_; first | omega | assumption) | (refine LTn.mk ?_; omega) | (refine NFam.mk ?_; simp only [hL, hq, l1, l2, g1, g2, hxi', a1, updO_same, notFam_cells]; omega)) [t7, t8, t11, t13, t14, t15, t16, t17, t56, t57, hL, hi, hi', hq, l1, l2, g1, g2, w1, w2, hxi', a1, Nat.min_self, -List.length_flatMap], by simp -implicitDefEqProofs (disch := first | (refine NE.mk ?_; first | omega | assumption) | (refine LTn.mk ?_; omega) | (refine NFam.mk ?_; simp only [hL, hq, l1, l2, g1, g2, hxi', a1, updO_same, notFam_cells]; omega)) [t7, t8, t11, t13, t14, t15, t16, t17, t56, t57, hL, hi, hi', hq, l1, l2, g1, g2, w1, w2, hxi', a1, Nat.min_self, -List.length_flatMap], by simp -implicitDefEqProofs (disch := first | (refine NE.mk ?_; first | omega | assumption) | (refine LTn.mk ?_; omega) | (refine NFam.mk ?_; simp only [hL, hq, l1, l2, g1, g2, hxi', a1, updO_same, notFam_cells]; omega)) [t7, t8, t11, t13, t14, t15, t16, t17, t56, t57, hL, hi, hi', hq, l1, l2, g1, g2, w1, w2, hxi', a1, Nat.min_self, -List.length_flatMap], by simp -implicitDefEqProofs (disch := first | (refine NE.mk ?_; first | omega | assumption) | (refine LTn.mk ?_; omega) | (refine NFam.mk ?_; simp only [hL, hq, l1, l2, g1, g2, hxi', a1, updO_same, notFam_cells]; omega)) [t7, t8, t11, t13, t14, t15, t16, t17, t56, t57, hL, hi, hi', hq, l1, l2, g1, g2, w1, w2, hxi', a1, Nat.min_self, -List.length_flatMap], by simp -implicitDefEqProofs (disch := first | (refine NE.mk ?_; first | omega | assumption) | (refine LTn.mk ?_; omega) | (refine NFam.mk ?_; simp only [hL, hq, l1, l2, g1, g2, hxi', a1, updO_same, notFam_cells]; omega)) [t7, t8, t11, t13, t14, t15, t16, t17, t56, t57, hL, hi, hi', hq, l1, l2, g1, g2, w1, w2, hxi', a1, Nat.min_self, -List.length_flatMap], hL, .inr ⟨q, rfl, hq, hq1, hq2, (by (try dsimp only [keepOnly_eq]); omega)⟩, ⟨(by (try dsimp only [keepOnly_eq]); omega), ho⟩, fun k hk hL' => ?_⟩
            rw [hg k hk hL']
            by_cases e : i = k
            · subst e; rw [if_neg (by omega), if_pos (by omega), hae]
            · by_cases e2 : k < i
              · rw [if_pos e2, if_pos (by omega)]
              · rw [if_neg e2, if_neg (by omega)]
        · rename_i hi
          have hLe : L = p.map (addP i0 d) := by
            refine List.ext_getElem (by simp [hL]) fun k h1 h2 => ?_
            rw [hg k (by omega) h1, if_pos (by omega), List.getElem_map]
          subst hLe
          have hip : i = p.length := by omega
          subst hip
          rw [List.take_length] at t17
          refine hE 2 _ ?_
          (try simp -implicitDefEqProofs (disch := first | (refine NE.mk ?_; first | omega | assumption) | (refine LTn.mk ?_; omega) | (refine NFam.mk ?_; simp only [updO_same, notFam_cells]; omega)) [t7, t8, t11, t13, t14, t15, t16, t17, t56, t57, Nat.min_self, -List.length_flatMap])
          refine s5_49 ?_
          refine s5_50 ?_
          simp -implicitDefEqProofs (disch := first | (refine NE.mk ?_; first | omega | assumption) | (refine LTn.mk ?_; omega) | (refine NFam.mk ?_; simp only [updO_same, notFam_cells]; omega)) [↓h5_51, t7, t8, t11, t13, t14, t15, t16, t17, t56, t57, Nat.min_self, -List.length_flatMap]
          refine s5_52 ?_
          simp -implicitDefEqProofs (disch := first | (refine NE.mk ?_; first | omega | assumption) | (refine LTn.mk ?_; omega) | (refine NFam.mk ?_; simp only [updO_same, notFam_cells]; omega)) [t7, t8, t11, t13, t14, t15, t16, t17, t56, t57, Nat.min_self, -List.length_flatMap]
          have fin : ∀ (s : St) (x2 : Cell) (f2 : Nat), (s.t 7 = .v (.one (xm)) ∧ s.t 8 = .v (.one (xw)) ∧ s.t 11 = .v (.one (y)) ∧ s.t 13 = .v (.one (.int .i64 (0))) ∧ s.t 14 = .v (.one (.int .i64 (d))) ∧ s.t 15 = .v (.one (.int .i64 (i0))) ∧ s.t 16 = .v (.one (x2))) → Own s.h.o h2.nx s.h.nx x2 39 2 enPr (moreS p i0 d) f2 → h2.le s.h → wC fl5 out c5_54 s Q := by
            clear O hg t7 t8 t11 t13 t14 t15 t16 t17 t56 t57 ho hn hL hi hk
            rintro s x2 f2 ⟨t7, t8, t11, t13, t14, t15, t16⟩ O ⟨hn, ho⟩
            have V' := more_valid M' hd hi0
            refine s5_54 ?_
            simp -implicitDefEqProofs (disch := first | (refine NE.mk ?_; first | omega | assumption) | (refine LTn.mk ?_; omega) | (refine NFam.mk ?_; simp only [updO_same, notFam_cells]; omega)) [↓h5_55, ↓h5_55_1, t7, t8, t11, t13, t14, t15, t16, Nat.min_self, -List.length_flatMap]
            refine wF_mono (lift5 (k13 xm xw x2 m w (moreS p i0 d) _ (vm.keep (by (try dsimp only [keepOnly_eq]); omega) fun i hi => (by simp -implicitDefEqProofs (disch := first | (refine NE.mk ?_; first | omega | assumption) | (refine LTn.mk ?_; omega) | (refine NFam.mk ?_; simp only [updO_same, notFam_cells]; omega)) [t7, t8, t11, t13, t14, t15, t16, Nat.min_self, -List.length_flatMap]; exact ho i hi)) (vw.keep (by (try dsimp only [keepOnly_eq]); omega) fun i hi => (by simp -implicitDefEqProofs (disch := first | (refine NE.mk ?_; first | omega | assumption) | (refine LTn.mk ?_; omega) | (refine NFam.mk ?_; simp only [updO_same, notFam_cells]; omega)) [t7, t8, t11, t13, t14, t15, t16, Nat.min_self, -List.length_flatMap]; exact ho i hi)) (O.view.keep (by (try dsimp only [keepOnly_eq]); omega) fun i hi => rfl) (by omega) (by have := V.wl; omega) (by have := V'.pl; omega))) ?_
            rintro _ h3 ⟨⟨hV, _⟩ | ⟨y', z', b', a', kp', _, P', rfl, vy', vz'⟩, hn2, ho2⟩
            · exact absurd V' hV
            (try dsimp only at hn2 ho2)
            have gk : ∀ i, i < h2.nx → h3.o i = h2.o i := fun i hi => by rw [ho2 i (by omega), ← ho i hi]
            have vm3 := vm.keep (n' := h3.nx) (by omega) gk
            have vy3 := vy.keep (n' := h3.nx) (by omega) gk
            have lenm := vm3.lenV (fs := fl5) (out := out)
            have leny := vy3.lenV (fs := fl5) (out := out)
            have leny' := vy'.lenV (fs := fl5) (out := out)
            rw [vl_len] at leny leny'
            have mono := monotone P P' V V' hall hd.1 hw
            clear gk ho2 hn2 ho hn O vm vw vp vy
            (try simp -implicitDefEqProofs (disch := first | (refine NE.mk ?_; first | omega | assumption) | (refine LTn.mk ?_; omega) | (refine NFam.mk ?_; simp only [updO_same, notFam_cells]; omega)) [↓h5_55, ↓h5_55_1, t7, t8, t11, t13, t14, t15, t16, lenm, leny, leny', Nat.min_self, -List.length_flatMap])
            refine s5_56 ?_
            refine s5_57 ?_
            simp -implicitDefEqProofs (disch := first | (refine NE.mk ?_; first | omega | assumption) | (refine LTn.mk ?_; omega) | (refine NFam.mk ?_; simp only [updO_same, notFam_cells]; omega)) [↓h5_58, ↓w5_58_1, ↓h5_58_1g, ↓h5_58_2, ↓w5_58_3, ↓h5_58_3g, ↓h5_58_4, ↓w5_58_5, ↓h5_58_5g, ↓h5_58_6, t7, t8, t11, t13, t14, t15, t16, lenm, leny, leny', Nat.min_self, -List.length_flatMap]
            refine s5_59 ?_
            (try simp -implicitDefEqProofs (disch := first | (refine NE.mk ?_; first | omega | assumption) | (refine LTn.mk ?_; omega) | (refine NFam.mk ?_; simp only [updO_same, notFam_cells]; omega)) [t7, t8, t11, t13, t14, t15, t16, lenm, leny, leny', Nat.min_self, -List.length_flatMap])
            refine s5_62 ?_
            refine s5_63 ?_
            simp -implicitDefEqProofs (disch := first | (refine NE.mk ?_; first | omega | assumption) | (refine LTn.mk ?_; omega) | (refine NFam.mk ?_; simp only [updO_same, notFam_cells]; omega)) [↓h5_64, t7, t8, t11, t13, t14, t15, t16, lenm, leny, leny', Nat.min_self, -List.length_flatMap]
            refine s5_65 ?_
            refine s5_66 (fun k s => ∃ i : Nat, i + k = m.length ∧ s.t 11 = .v (.one (y)) ∧ s.t 14 = .v (.one (.int .i64 (d))) ∧ s.t 15 = .v (.one (.int .i64 (i0))) ∧ s.t 19 = .v (.one (y')) ∧ s.t 114 = .v (.one (.int .i64 (m.length))) ∧ s.t 115 = .v (.one (.int .i64 (i))) ∧ h3.le s.h) m.length ?_ ?_
            · exact ⟨0, by omega, by simp -implicitDefEqProofs (disch := first | (refine NE.mk ?_; first | omega | assumption) | (refine LTn.mk ?_; omega) | (refine NFam.mk ?_; simp only [updO_same, notFam_cells]; omega)) [t7, t8, t11, t13, t14, t15, t16, lenm, leny, leny', Nat.min_self, -List.length_flatMap], by simp -implicitDefEqProofs (disch := first | (refine NE.mk ?_; first | omega | assumption) | (refine LTn.mk ?_; omega) | (refine NFam.mk ?_; simp only [updO_same, notFam_cells]; omega)) [t7, t8, t11, t13, t14, t15, t16, lenm, leny, leny', Nat.min_self, -List.length_flatMap], by simp -implicitDefEqProofs (disch := first | (refine NE.mk ?_; first | omega | assumption) | (refine LTn.mk ?_; omega) | (refine NFam.mk ?_; simp only [updO_same, notFam_cells]; omega)) [t7, t8, t11, t13, t14, t15, t16, lenm, leny, leny', Nat.min_self, -List.length_flatMap], by simp -implicitDefEqProofs (disch := first | (refine NE.mk ?_; first | omega | assumption) | (refine LTn.mk ?_; omega) | (refine NFam.mk ?_; simp only [updO_same, notFam_cells]; omega)) [t7, t8, t11, t13, t14, t15, t16, lenm, leny, leny', Nat.min_self, -List.length_flatMap], by simp -implicitDefEqProofs (disch := first | (refine NE.mk ?_; first | omega | assumption) | (refine LTn.mk ?_; omega) | (refine NFam.mk ?_; simp only [updO_same, notFam_cells]; omega)) [t7, t8, t11, t13, t14, t15, t16, lenm, leny, leny', Nat.min_self, -List.length_flatMap], by simp -implicitDefEqProofs (disch := first | (refine NE.mk ?_; first | omega | assumption) | (refine LTn.mk ?_; omega) | (refine NFam.mk ?_; simp only [updO_same, notFam_cells]; omega)) [t7, t8, t11, t13, t14, t15, t16, lenm, leny, leny', Nat.min_self, -List.length_flatMap], (by (try dsimp only [keepOnly_eq]); omega), fun i hi => by simp -implicitDefEqProofs (disch := first | (refine NE.mk ?_; first | omega | assumption) | (refine LTn.mk ?_; omega) | (refine NFam.mk ?_; simp only [updO_same, notFam_cells]; omega)) [t7, t8, t11, t13, t14, t15, t16, lenm, leny, leny', Nat.min_self, -List.length_flatMap]⟩
            · clear t7 t8 t11 t13 t14 t15 t16 s
              rintro k s Q2 ⟨i, hk, t11, t14, t15, t19, t114, t115, hn, ho⟩ hN hE hR
              refine s5_67 ?_
              simp -implicitDefEqProofs (disch := first | (refine NE.mk ?_; first | omega | assumption) | (refine LTn.mk ?_; omega) | (refine NFam.mk ?_; simp only [updO_same, notFam_cells]; omega)) [↓h5_68, t11, t14, t15, t19, t114, t115, Nat.min_self, -List.length_flatMap]
              refine s5_69 ?_
              simp -implicitDefEqProofs (disch := first | (refine NE.mk ?_; first | omega | assumption) | (refine LTn.mk ?_; omega) | (refine NFam.mk ?_; simp only [updO_same, notFam_cells]; omega)) [t11, t14, t15, t19, t114, t115, Nat.min_self, -List.length_flatMap]
              split
              · rename_i hi
                obtain ⟨jy, fy, roy, ey, wy, csy, rfl, hjy, hcy, hly, hgy⟩ := vy3.get1 (g := (Cell.int .i64 ·)) (fun _ => rfl) (i := i) (by rw [vl_len]; exact hi)
                obtain ⟨jz, fz, roz, ez, wz, csz, rfl, hjz, hcz, hlz, hgz⟩ := vy'.get1 (g := (Cell.int .i64 ·)) (fun _ => rfl) (i := i) (by rw [vl_len]; exact hi)
                rw [vl_get] at hgy hgz
                have cy := (ho jy hjy).trans hcy
                have cz := (ho jz hjz).trans hcz
                have w1 := wrap64 (show -9223372036854775808 ≤ (i : Int) + 1 by omega) (by omega)
                obtain ⟨_, _, m1, m2⟩ := mono i hi
                have bdi := P.bd i
                have w2 := wrap64 (show -9223372036854775808 ≤ a i + d by omega) (by omega)
                have m1' : ¬ a' i < a i := by omega
                have m2' : ¬ a i + d < a' i := by omega
                refine s5_71 ?_
                refine s5_72 ?_
                refine s5_73 ?_
                simp -implicitDefEqProofs (disch := first | (refine NE.mk ?_; first | omega | assumption) | (refine LTn.mk ?_; omega) | (refine NFam.mk ?_; simp only [cy, cz, m1', m2', vl_len, updO_same, notFam_cells]; omega)) [↓h5_74, t11, t14, t15, t19, t114, t115, hi, cy, hly, hgy, cz, hlz, hgz, w1, w2, m1', m2', vl_len, Nat.min_self, -List.length_flatMap]
                refine s5_75 ?_
                simp -implicitDefEqProofs (disch := first | (refine NE.mk ?_; first | omega | assumption) | (refine LTn.mk ?_; omega) | (refine NFam.mk ?_; simp only [cy, cz, m1', m2', vl_len, updO_same, notFam_cells]; omega)) [↓h5_76, ↓w5_76_1, ↓h5_76_1g, ↓h5_76_1g_1, ↓h5_76_2, t11, t14, t15, t19, t114, t115, hi, cy, hly, hgy, cz, hlz, hgz, w1, w2, m1', m2', vl_len, Nat.min_self, -List.length_flatMap]
                refine s5_77 ?_
                simp -implicitDefEqProofs (disch := first | (refine NE.mk ?_; first | omega | assumption) | (refine LTn.mk ?_; omega) | (refine NFam.mk ?_; simp only [cy, cz, m1', m2', vl_len, updO_same, notFam_cells]; omega)) [t11, t14, t15, t19, t114, t115, hi, cy, hly, hgy, cz, hlz, hgz, w1, w2, m1', m2', vl_len, Nat.min_self, -List.length_flatMap]
                refine s5_80 ?_
                simp -implicitDefEqProofs (disch := first | (refine NE.mk ?_; first | omega | assumption) | (refine LTn.mk ?_; omega) | (refine NFam.mk ?_; simp only [cy, cz, m1', m2', vl_len, updO_same, notFam_cells]; omega)) [↓h5_80, t11, t14, t15, t19, t114, t115, hi, cy, hly, hgy, cz, hlz, hgz, w1, w2, m1', m2', vl_len, Nat.min_self, -List.length_flatMap]
                refine hN (k - 1) _ (by omega) ?_
                dsimp only [keepOnly_eq]
                exact ⟨i + 1, by omega, by simp -implicitDefEqProofs (disch := first | (refine NE.mk ?_; first | omega | assumption) | (refine LTn.mk ?_; omega) | (refine NFam.mk ?_; simp only [cy, cz, m1', m2', vl_len, updO_same, notFam_cells]; omega)) [t11, t14, t15, t19, t114, t115, hi, cy, hly, hgy, cz, hlz, hgz, w1, w2, m1', m2', vl_len, Nat.min_self, -List.length_flatMap], by simp -implicitDefEqProofs (disch := first | (refine NE.mk ?_; first | omega | assumption) | (refine LTn.mk ?_; omega) | (refine NFam.mk ?_; simp only [cy, cz, m1', m2', vl_len, updO_same, notFam_cells]; omega)) [t11, t14, t15, t19, t114, t115, hi, cy, hly, hgy, cz, hlz, hgz, w1, w2, m1', m2', vl_len, Nat.min_self, -List.length_flatMap], by simp -implicitDefEqProofs (disch := first | (refine NE.mk ?_; first | omega | assumption) | (refine LTn.mk ?_; omega) | (refine NFam.mk ?_; simp only [cy, cz, m1', m2', vl_len, updO_same, notFam_cells]; omega)) [t11, t14, t15, t19, t114, t115, hi, cy, hly, hgy, cz, hlz, hgz, w1, w2, m1', m2', vl_len, Nat.min_self, -List.length_flatMap], by simp -implicitDefEqProofs (disch := first | (refine NE.mk ?_; first | omega | assumption) | (refine LTn.mk ?_; omega) | (refine NFam.mk ?_; simp only [cy, cz, m1', m2', vl_len, updO_same, notFam_cells]; omega)) [t11, t14, t15, t19, t114, t115, hi, cy, hly, hgy, cz, hlz, hgz, w1, w2, m1', m2', vl_len, Nat.min_self, -List.length_flatMap], by simp -implicitDefEqProofs (disch := first | (refine NE.mk ?_; first | omega | assumption) | (refine LTn.mk ?_; omega) | (refine NFam.mk ?_; simp only [cy, cz, m1', m2', vl_len, updO_same, notFam_cells]; omega)) [t11, t14, t15, t19, t114, t115, hi, cy, hly, hgy, cz, hlz, hgz, w1, w2, m1', m2', vl_len, Nat.min_self, -List.length_flatMap], by simp -implicitDefEqProofs (disch := first | (refine NE.mk ?_; first | omega | assumption) | (refine LTn.mk ?_; omega) | (refine NFam.mk ?_; simp only [cy, cz, m1', m2', vl_len, updO_same, notFam_cells]; omega)) [t11, t14, t15, t19, t114, t115, hi, cy, hly, hgy, cz, hlz, hgz, w1, w2, m1', m2', vl_len, Nat.min_self, -List.length_flatMap], (by (try dsimp only [keepOnly_eq]); omega), ho⟩
              · refine hE 4 _ ?_
                (try simp -implicitDefEqProofs (disch := first | (refine NE.mk ?_; first | omega | assumption) | (refine LTn.mk ?_; omega) | (refine NFam.mk ?_; simp only [updO_same, notFam_cells]; omega)) [t11, t14, t15, t19, t114, t115, Nat.min_self, -List.length_flatMap])
                refine s5_81 ?_
                simp -implicitDefEqProofs (disch := first | (refine NE.mk ?_; first | omega | assumption) | (refine LTn.mk ?_; omega) | (refine NFam.mk ?_; simp only [updO_same, notFam_cells]; omega)) [↓h5_82, ↓h5_82_1, ↓w5_82_2, ↓h5_82_2g, ↓h5_82_2g_1, ↓h5_82_3, t11, t14, t15, t19, t114, t115, Nat.min_self, -List.length_flatMap]
                refine wF_mono (wF_out rfl (out14 _)) ?_
                rintro _ _ ⟨rfl, rfl⟩
                obtain ⟨u, hu⟩ : ∃ u : Nat, i0 = u := ⟨i0.toNat, by omega⟩
                have hum : u < m.length := by omega
                obtain ⟨jy, fy, roy, ey, wy, csy, rfl, hjy, hcy, hly, hgy⟩ := vy3.get1 (g := (Cell.int .i64 ·)) (fun _ => rfl) (i := u) (by rw [vl_len]; exact hum)
                obtain ⟨jz, fz, roz, ez, wz, csz, rfl, hjz, hcz, hlz, hgz⟩ := vy'.get1 (g := (Cell.int .i64 ·)) (fun _ => rfl) (i := u) (by rw [vl_len]; exact hum)
                rw [vl_get] at hgy hgz
                have cy := (ho jy hjy).trans hcy
                have cz := (ho jz hjz).trans hcz
                obtain ⟨_, m3, _, _⟩ := mono u hum
                have m4 := m3 hu.symm
                have bdi := P.bd u
                have w2 := wrap64 (show -9223372036854775808 ≤ a u + d by omega) (by omega)
                (try simp -implicitDefEqProofs (disch := first | (refine NE.mk ?_; first | omega | assumption) | (refine LTn.mk ?_; omega) | (refine NFam.mk ?_; simp only [hu, hum, cy, cz, m4, vl_len, updO_same, notFam_cells]; omega)) [↓h5_82, ↓h5_82_1, ↓w5_82_2, ↓h5_82_2g, ↓h5_82_2g_1, ↓h5_82_3, t11, t14, t15, t19, t114, t115, hu, hum, cy, hly, hgy, cz, hlz, hgz, w2, m4, vl_len, Nat.min_self, -List.length_flatMap])
                exact hQ _ _ _ (.inr rfl) rfl (by simp -implicitDefEqProofs (disch := first | (refine NE.mk ?_; first | omega | assumption) | (refine LTn.mk ?_; omega) | (refine NFam.mk ?_; simp only [hu, hum, cy, cz, m4, vl_len, updO_same, notFam_cells]; omega)) [t11, t14, t15, t19, t114, t115, hu, hum, cy, hly, hgy, cz, hlz, hgz, w2, m4, vl_len, Nat.min_self, -List.length_flatMap])
          cases hany : anyP i0 p with
          | true =>
            have hm : moreS p i0 d = p.map (addP i0 d) := by unfold moreS; rw [hany]; simp
            (try simp -implicitDefEqProofs (disch := first | (refine NE.mk ?_; first | omega | assumption) | (refine LTn.mk ?_; omega) | (refine NFam.mk ?_; simp only [hany, updO_same, notFam_cells]; omega)) [t7, t8, t11, t13, t14, t15, t16, t17, t56, t57, hany, Nat.min_self, -List.length_flatMap])
            exact fin _ x' f (by simp -implicitDefEqProofs (disch := first | (refine NE.mk ?_; first | omega | assumption) | (refine LTn.mk ?_; omega) | (refine NFam.mk ?_; simp only [hany, updO_same, notFam_cells]; omega)) [t7, t8, t11, t13, t14, t15, t16, t17, t56, t57, hany, Nat.min_self, -List.length_flatMap]) (by rw [hm]; exact O.keep' (by (try dsimp only [keepOnly_eq]); omega) fun i hi => rfl) ⟨(by (try dsimp only [keepOnly_eq]); omega), ho⟩
          | false =>
            have hm : moreS p i0 d = p.map (addP i0 d) ++ [⟨i0, d⟩] := by unfold moreS; rw [hany]; simp
            (try simp -implicitDefEqProofs (disch := first | (refine NE.mk ?_; first | omega | assumption) | (refine LTn.mk ?_; omega) | (refine NFam.mk ?_; simp only [hany, updO_same, notFam_cells]; omega)) [t7, t8, t11, t13, t14, t15, t16, t17, t56, t57, hany, Nat.min_self, -List.length_flatMap])
            refine s5_53 ?_
            simp -implicitDefEqProofs (disch := first | (refine NE.mk ?_; first | omega | assumption) | (refine LTn.mk ?_; omega) | (refine NFam.mk ?_; simp only [hany, updO_same, notFam_cells]; omega)) [↓h5_53, ↓h5_53_1, t7, t8, t11, t13, t14, t15, t16, t17, t56, t57, hany, Nat.min_self, -List.length_flatMap]
            refine app_own (f := f) (lo := h2.nx) (n := s.h.nx) (x := x') (l := p.map (addP i0 d)) (l2 := [⟨i0, d⟩]) (enc := enPr) ?_ ?_ ?_ (src_one (f := s.h.nx + 1 + 2 + 4) (ro := false) (e := 39) (s := 2) (w := 2) ?_ rfl) enPr_len enPr_solid (show 0 < 2 by omega) ⟨?_, ?_⟩ ?_
            · (try dsimp only)
              omega
            · (try dsimp only)
              omega
            · exact O.keep' (Nat.le_refl _) fun i hi => by simp -implicitDefEqProofs (disch := first | (refine NE.mk ?_; first | omega | assumption) | (refine LTn.mk ?_; omega) | (refine NFam.mk ?_; simp only [hany, updO_same, notFam_cells]; omega)) [t7, t8, t11, t13, t14, t15, t16, t17, t56, t57, hany, Nat.min_self, -List.length_flatMap]
            · (try simp -implicitDefEqProofs (disch := first | (refine NE.mk ?_; first | omega | assumption) | (refine LTn.mk ?_; omega) | (refine NFam.mk ?_; simp only [hany, updO_same, notFam_cells]; omega)) [t7, t8, t11, t13, t14, t15, t16, t17, t56, t57, hany, enPr, Nat.min_self, -List.length_flatMap])
            · simp; omega
            · simp; omega
            rintro x2 f2 o2 O2 hf2 ho2
            (try dsimp only at ho2 O2)
            rw [← hm] at O2
            (try simp -implicitDefEqProofs (disch := first | (refine NE.mk ?_; first | omega | assumption) | (refine LTn.mk ?_; omega) | (refine NFam.mk ?_; simp only [hany, updO_same, notFam_cells]; omega)) [↓h5_53, ↓h5_53_1, t7, t8, t11, t13, t14, t15, t16, t17, t56, t57, hany, Nat.min_self, -List.length_flatMap])
            refine fin _ x2 f2 (by simp -implicitDefEqProofs (disch := first | (refine NE.mk ?_; first | omega | assumption) | (refine LTn.mk ?_; omega) | (refine NFam.mk ?_; simp only [hany, updO_same, notFam_cells]; omega)) [t7, t8, t11, t13, t14, t15, t16, t17, t56, t57, hany, Nat.min_self, -List.length_flatMap]) (O2.keep' (by (try dsimp only [keepOnly_eq]); omega) fun i hi => rfl) ⟨(by (try dsimp only [keepOnly_eq]); omega), fun v hv => ?_⟩
            (try dsimp only)
            rw [ho2 v (by omega) (.inl hv)]
            (try simp -implicitDefEqProofs (disch := first | (refine NE.mk ?_; first | omega | assumption) | (refine LTn.mk ?_; omega) | (refine NFam.mk ?_; simp only [hany, updO_same, notFam_cells]; omega)) [t7, t8, t11, t13, t14, t15, t16, t17, t56, t57, hany, Nat.min_self, -List.length_flatMap])
            exact ho v hv
end Go.Proofs.Ythoicdnlcnppgaa.Fn
