/- Contracts: sorted. Conditions: none. -/
import Derived.Test.YthoicdnlcnppgaaD5
set_option linter.unusedVariables false
set_option linter.unusedSimpArgs false
namespace Go.Proofs.Ythoicdnlcnppgaa.Fn
open Go Go.Am
set_option maxRecDepth 100000
set_option maxHeartbeats 1000000
def gI (n : Nat) (f : Int → Nat) : List Cell := (List.range n).map fun v : Nat => Cell.int .i64 (f v)
theorem gI_len {n f} : (gI n f).length = n := by simp [gI]
theorem gI_get {n : Nat} {f : Int → Nat} {v : Nat} (h : v < n) : (gI n f)[v]? = some (.int .i64 (f v)) := by simp [gI, h]
theorem gI_set {n : Nat} {f : Int → Nat} {v : Nat} (h : v < n) (c : Nat) : (gI n f).set v (.int .i64 c) = gI n (updI f v c) := by
  apply List.ext_getElem
  · simp [gI]
  · intro i h1 h2
    simp only [gI, List.getElem_set, List.getElem_map, List.getElem_range, updI]
    by_cases e : v = i
    · simp [e]
    · rw [if_neg e, if_neg (by omega)]
theorem gI_zero : ∀ {n : Nat}, reps [Cell.int .i64 0] n = gI n (fun _ => 0) := by
  intro n
  have := reps_rows enI 0 n
  rw [show enI 0 = [Cell.int .i64 0] from rfl] at this
  rw [this]
  apply List.ext_getElem
  · simp [gI, rows_len enI_len]
  · intro i h1 h2
    have := List.eq_of_mem_replicate (a := Cell.int .i64 0) (b := ((List.replicate n (0 : Int)).flatMap enI)[i]) (n := n) (by
      have e : (List.replicate n (0 : Int)).flatMap enI = List.replicate n (Cell.int .i64 0) := by
        clear this h1 h2
        induction n with
        | zero => rfl
        | succ n ih => rw [List.replicate_succ, List.flatMap_cons, ih]; rfl
      rw [← e]; exact List.getElem_mem h1)
    rw [this]; simp [gI]
def c1W (w : List Wt) (i : Nat) (v : Int) : Nat := (w.take i).countP (qW [] v)
theorem c1W_step {w : List Wt} {i : Nat} (hi : i < w.length) : updI (c1W w i) w[i].t (c1W w i w[i].t + 1) = c1W w (i + 1) := by
  funext v
  unfold c1W
  rw [List.take_succ_eq_append_getElem hi, List.countP_append]
  unfold updI
  split
  · rename_i e; subst e
    simp [List.countP_cons, qW]
  · rename_i e
    have : ¬ w[i].t = v := fun h => e h.symm
    simp [List.countP_cons, qW, this]
theorem c1W_le (w : List Wt) (i : Nat) (v : Int) : c1W w i v ≤ w.length := Nat.le_trans List.countP_le_length (by simp; omega)
theorem fW_le (w : List Wt) (D : List Int) (c : Int) (k : Nat) (v : Int) : fW w D c k v ≤ w.length + w.length := by
  unfold fW
  have h1 := List.countP_le_length (p := qW (D ++ [c]) v) (l := w.take k)
  have h2 := List.countP_le_length (p := qW D v) (l := w.drop k)
  simp only [List.length_take, List.length_drop] at h1 h2
  omega
theorem k32 (n : Nat) (x : Cell) (l : List Wt) (h : AH) (v : View h.o h.nx x enW l) (hn : n ≤ 1000000) (hlen : l.length ≤ 1000000) (hw : ∀ x ∈ l, inW n x) :
    wF fs out 32 [.v (.one (.int .i64 n)), .v (.one x)] h fun r h' => ∃ y r' f, r = .tup [.one y, .one (.bool (decide (r'.length = n)))] ∧ SortQ n l r' ∧ Own h'.o h.nx h'.nx y 3 1 enI r' f ∧ h.le h' := by
  refine wF_fn fs32 rfl fun Q hQ => ?_
  have lenx := v.lenV (fs := fs) (out := out)
  have hb1 : (n : Int) * 8 ≤ 140737488355328 := by omega
  have hb2 : (n : Int) ≤ 9223372036854775807 := by omega
  have hb3 : n * 8 ≤ 140737488355328 := by omega
  have hb4 : n ≤ 9223372036854775807 := by omega
  refine s32_0 ?_
  simp -implicitDefEqProofs (disch := constructor; omega) [↓h32_1, lenx, hb1, hb2, hb3, hb4, gI_zero]
  refine s32_2 ?_
  simp -implicitDefEqProofs (disch := constructor; omega) [↓h32_3, lenx, hb1, hb2, hb3, hb4, gI_zero]
  refine s32_4 ?_
  refine s32_5 ?_
  simp -implicitDefEqProofs (disch := constructor; omega) [↓h32_6, lenx, hb1, hb2, hb3, hb4, gI_zero]
  refine s32_7 ?_
  obtain ⟨q, hq⟩ : ∃ q, q = h.nx + 2 + 1 := ⟨_, rfl⟩
  rw [← hq]
  refine s32_8 (fun m s => ∃ i : Nat, i + m = l.length ∧ s.t 0 = .v (.one (.int .i64 n)) ∧ s.t 1 = .v (.one x) ∧ s.t 6 = .v (.one (.slice q 0 n)) ∧ s.t 17 = .v (.one x) ∧ s.t 18 = .v (.one (.int .i64 l.length)) ∧ s.t 19 = .v (.one (.int .i64 i)) ∧
    s.h.o q = some (.cells q false 3 1 (gI n (c1W l i))) ∧ q < s.h.nx ∧ ∀ i, i < h.nx → s.h.o i = h.o i) l.length ?_ ?_
  · exact ⟨0, by omega, by simp -implicitDefEqProofs (disch := constructor; omega) [lenx, hb1, hb2, hb3, hb4, gI_zero], by simp -implicitDefEqProofs (disch := constructor; omega) [lenx, hb1, hb2, hb3, hb4, gI_zero], by simp -implicitDefEqProofs (disch := constructor; omega) [lenx, hb1, hb2, hb3, hb4, gI_zero], by simp -implicitDefEqProofs (disch := constructor; omega) [lenx, hb1, hb2, hb3, hb4, gI_zero], by simp -implicitDefEqProofs (disch := constructor; omega) [lenx, hb1, hb2, hb3, hb4, gI_zero], by simp -implicitDefEqProofs (disch := constructor; omega) [lenx, hb1, hb2, hb3, hb4, gI_zero], by simp -implicitDefEqProofs (disch := constructor; omega) [lenx, hb1, hb2, hb3, hb4, gI_zero]; rfl, (by (try dsimp only [keepOnly_eq]); omega), fun i hi => by simp -implicitDefEqProofs (disch := constructor; omega) [lenx, hb1, hb2, hb3, hb4, gI_zero]⟩
  · rintro m s Q2 ⟨i, hm, t0, t1, t6, t17, t18, t19, hoq, hqn, ho⟩ hN hE hR
    refine s32_9 ?_
    simp -implicitDefEqProofs (disch := constructor; omega) [↓h32_10, t0, t1, t6, t17, t18, t19]
    refine s32_11 ?_
    simp -implicitDefEqProofs (disch := constructor; omega) [t0, t1, t6, t17, t18, t19]
    split
    · rename_i hi
      obtain ⟨j, f, ro, e, w, cs, rfl, hj, hcs, hl1, hg1, hg2, hg3⟩ := v.get enW_len hi
      have hcs' := (ho j hj).trans hcs
      obtain ⟨p, hpe⟩ : ∃ p, p = l[i] := ⟨_, rfl⟩
      rw [← hpe] at hg2 hg1 hg3
      have hmem : p ∈ l := by rw [hpe]; exact List.getElem_mem hi
      obtain ⟨pf0, pfn, pt0, ptn⟩ := hw p hmem
      obtain ⟨k, hk⟩ : ∃ k : Nat, p.t = k := ⟨p.t.toNat, by omega⟩
      have hkn : k < n := by omega
      have w1 := wrap64 (show -9223372036854775808 ≤ (i : Int) + 1 by omega) (by omega)
      have hle := c1W_le l i k
      obtain ⟨c, hc⟩ : ∃ c, c = c1W l i k := ⟨_, rfl⟩
      have w2 := wrap64 (show -9223372036854775808 ≤ (c : Int) + 1 by omega) (by omega)
      have g1 := gI_get (f := c1W l i) hkn
      rw [← hc] at g1
      have g2 : (gI n (c1W l i)).set k (.int .i64 ((c : Int) + 1)) = gI n (c1W l (i + 1)) := by
        rw [hc]
        refine (gI_set (f := c1W l i) hkn (c1W l i k + 1)).trans ?_
        congr 1
        have e := c1W_step hi
        rw [← hpe, hk] at e
        exact e
      refine s32_13 ?_
      refine s32_14 ?_
      refine s32_15 ?_
      simp -implicitDefEqProofs (disch := constructor; omega) [↓h32_16, t0, t1, t6, t17, t18, t19, hi, hl1, hcs', hg2, enW, w1, hk, hkn, hoq, g1, g2, gI_len, w2]
      refine s32_17 ?_
      simp -implicitDefEqProofs (disch := constructor; omega) [↓h32_17, t0, t1, t6, t17, t18, t19, hi, hl1, hcs', hg2, enW, w1, hk, hkn, hoq, g1, g2, gI_len, w2]
      refine s32_18 ?_
      simp -implicitDefEqProofs (disch := constructor; omega) [↓h32_18, t0, t1, t6, t17, t18, t19, hi, hl1, hcs', hg2, enW, w1, hk, hkn, hoq, g1, g2, gI_len, w2]
      refine hN (m - 1) _ (by omega) ?_
      dsimp only [keepOnly_eq]
      refine ⟨i + 1, by omega, by simp -implicitDefEqProofs (disch := constructor; omega) [t0, t1, t6, t17, t18, t19, hi, hl1, hcs', hg2, enW, w1, hk, hkn, hoq, g1, g2, gI_len, w2], by simp -implicitDefEqProofs (disch := constructor; omega) [t0, t1, t6, t17, t18, t19, hi, hl1, hcs', hg2, enW, w1, hk, hkn, hoq, g1, g2, gI_len, w2], by simp -implicitDefEqProofs (disch := constructor; omega) [t0, t1, t6, t17, t18, t19, hi, hl1, hcs', hg2, enW, w1, hk, hkn, hoq, g1, g2, gI_len, w2], by simp -implicitDefEqProofs (disch := constructor; omega) [t0, t1, t6, t17, t18, t19, hi, hl1, hcs', hg2, enW, w1, hk, hkn, hoq, g1, g2, gI_len, w2], by simp -implicitDefEqProofs (disch := constructor; omega) [t0, t1, t6, t17, t18, t19, hi, hl1, hcs', hg2, enW, w1, hk, hkn, hoq, g1, g2, gI_len, w2], by simp -implicitDefEqProofs (disch := constructor; omega) [t0, t1, t6, t17, t18, t19, hi, hl1, hcs', hg2, enW, w1, hk, hkn, hoq, g1, g2, gI_len, w2], by simp -implicitDefEqProofs (disch := constructor; omega) [t0, t1, t6, t17, t18, t19, hi, hl1, hcs', hg2, enW, w1, hk, hkn, hoq, g1, g2, gI_len, w2], (by (try dsimp only [keepOnly_eq]); omega), fun k hk => ?_⟩
      (try simp -implicitDefEqProofs (disch := constructor; omega) [t0, t1, t6, t17, t18, t19, hi, hl1, hcs', hg2, enW, w1, hk, hkn, hoq, g1, g2, gI_len, w2])
      exact ho k hk
    · skip
      rename_i hi
      refine hE 0 _ ?_
      (try simp -implicitDefEqProofs (disch := constructor; omega) [t0, t1, t6, t17, t18, t19])
      refine s32_19 ?_
      simp -implicitDefEqProofs (disch := constructor; omega) [↓h32_20, t0, t1, t6, t17, t18, t19]
      refine s32_21 ?_
      refine s32_22 ?_
      simp -implicitDefEqProofs (disch := constructor; omega) [↓h32_23, t0, t1, t6, t17, t18, t19]
      refine s32_24 ?_
      have hil : i = l.length := by omega
      subst hil
      have hc1 : c1W l l.length = f0W l := by funext v; simp [c1W, f0W]
      rw [hc1] at hoq
      clear hE hN hR
      obtain ⟨f, hf⟩ : ∃ f, f = f0W l := ⟨_, rfl⟩
      rw [← hf] at hoq
      refine s32_25 (fun m s => ∃ (i : Nat) (y : Cell) (r : List Int) (fo : Nat), i + m = n ∧ s.t 0 = .v (.one (.int .i64 n)) ∧ s.t 1 = .v (.one x) ∧ s.t 6 = .v (.one (.slice q 0 n)) ∧ s.t 9 = .v (.one y) ∧ s.t 31 = .v (.one (.slice q 0 n)) ∧ s.t 32 = .v (.one (.int .i64 n)) ∧ s.t 33 = .v (.one (.int .i64 i)) ∧
        s.h.o q = some (.cells q false 3 1 (gI n f)) ∧ q < s.h.nx ∧ fo ≠ q ∧ fo < s.h.nx ∧ Own s.h.o h.nx s.h.nx y 3 1 enI r fo ∧ r = (((List.range i).map fun v : Nat => (v : Int)).filter fun v => f v = 0) ∧ ∀ i, i < h.nx → s.h.o i = h.o i) n ?_ ?_
      · exact ⟨0, .nils, [], q + 1, by omega, by simp -implicitDefEqProofs (disch := constructor; omega) [t0, t1, t6, t17, t18, t19], by simp -implicitDefEqProofs (disch := constructor; omega) [t0, t1, t6, t17, t18, t19], by simp -implicitDefEqProofs (disch := constructor; omega) [t0, t1, t6, t17, t18, t19], by simp -implicitDefEqProofs (disch := constructor; omega) [t0, t1, t6, t17, t18, t19], by simp -implicitDefEqProofs (disch := constructor; omega) [t0, t1, t6, t17, t18, t19], by simp -implicitDefEqProofs (disch := constructor; omega) [t0, t1, t6, t17, t18, t19], by simp -implicitDefEqProofs (disch := constructor; omega) [t0, t1, t6, t17, t18, t19], by simp -implicitDefEqProofs (disch := constructor; omega) [t0, t1, t6, t17, t18, t19, hoq], (by (try dsimp only [keepOnly_eq]); omega), by omega, (by (try dsimp only [keepOnly_eq]); omega), .nil, rfl, fun i hi => by simp -implicitDefEqProofs (disch := constructor; omega) [t0, t1, t6, t17, t18, t19]; exact ho i hi⟩
      · clear ho hoq t0 t1 t6 t17 t18 t19
        rintro m s Q2 ⟨i, y, r, fo, hm, t0, t1, t6, t9, t31, t32, t33, hoq, hqn, hfq, hfn, O, hr, ho⟩ hN hE hR
        refine s32_26 ?_
        simp -implicitDefEqProofs (disch := constructor; omega) [↓h32_27, t0, t1, t6, t9, t31, t32, t33]
        refine s32_28 ?_
        simp -implicitDefEqProofs (disch := constructor; omega) [t0, t1, t6, t9, t31, t32, t33]
        split
        · rename_i hi
          have w1 := wrap64 (show -9223372036854775808 ≤ (i : Int) + 1 by omega) (by omega)
          have g1 := gI_get (f := f) hi
          refine s32_30 ?_
          refine s32_31 ?_
          refine s32_32 ?_
          simp -implicitDefEqProofs (disch := constructor; omega) [↓h32_33, t0, t1, t6, t9, t31, t32, t33, hi, w1, hoq, g1, gI_len]
          refine s32_34 ?_
          simp -implicitDefEqProofs (disch := constructor; omega) [↓h32_35, t0, t1, t6, t9, t31, t32, t33, hi, w1, hoq, g1, gI_len]
          refine s32_36 ?_
          simp -implicitDefEqProofs (disch := constructor; omega) [t0, t1, t6, t9, t31, t32, t33, hi, w1, hoq, g1, gI_len]
          by_cases hz : f i = 0
          · skip
            (try simp -implicitDefEqProofs (disch := constructor; omega) [t0, t1, t6, t9, t31, t32, t33, hi, w1, hoq, g1, gI_len, hz])
            refine s32_37 ?_
            simp -implicitDefEqProofs (disch := constructor; omega) [↓h32_37, ↓h32_37_1, t0, t1, t6, t9, t31, t32, t33, hi, w1, hoq, g1, gI_len, hz]
            refine app_own (f := fo) (lo := h.nx) (n := s.h.nx) (x := y) (l := r) (l2 := [(i : Int)]) (enc := enI) ?_ ?_ ?_ (src_one (f := s.h.nx + 1 + 5 + 2 + 2) (ro := false) (e := 3) (s := 1) (w := 1) ?_ rfl) enI_len enI_solid (show 0 < 1 by omega) ⟨?_, ?_⟩ ?_
            · (try dsimp only)
              omega
            · (try dsimp only)
              omega
            · exact O.keep (Nat.le_refl _) fun i cs h1 h2 h3 => by simp -implicitDefEqProofs (disch := constructor; omega) [t0, t1, t6, t9, t31, t32, t33, hi, w1, hoq, g1, gI_len, hz]
            · (try simp -implicitDefEqProofs (disch := constructor; omega) [t0, t1, t6, t9, t31, t32, t33, hi, w1, hoq, g1, gI_len, hz, enI])
            · have : r.length ≤ i := by rw [hr]; exact Nat.le_trans (List.length_filter_le _ _) (by simp)
              simp; omega
            · have : r.length ≤ i := by rw [hr]; exact Nat.le_trans (List.length_filter_le _ _) (by simp)
              simp; omega
            rintro y2 f2 o2 O2 hf2 ho2
            (try dsimp only at ho2 hf2 O2)
            have hq2 : o2 q = some (.cells q false 3 1 (gI n f)) := by
              rw [ho2 q (by omega) (.inr (by simp -implicitDefEqProofs (disch := constructor; omega) [t0, t1, t6, t9, t31, t32, t33, hi, w1, hoq, g1, gI_len, hz]; omega))]
              (try simp -implicitDefEqProofs (disch := constructor; omega) [t0, t1, t6, t9, t31, t32, t33, hi, w1, hoq, g1, gI_len, hz])
            have low2 : ∀ i, i < h.nx → o2 i = h.o i := fun i hi => by
              rw [ho2 i (by omega) (.inl hi)]
              (try simp -implicitDefEqProofs (disch := constructor; omega) [t0, t1, t6, t9, t31, t32, t33, hi, w1, hoq, g1, gI_len, hz])
              exact ho i hi
            clear ho2
            (try simp -implicitDefEqProofs (disch := constructor; omega) [↓h32_37, ↓h32_37_1, t0, t1, t6, t9, t31, t32, t33, hi, w1, hoq, g1, gI_len, hz])
            refine s32_38 ?_
            simp -implicitDefEqProofs (disch := constructor; omega) [↓h32_38, t0, t1, t6, t9, t31, t32, t33, hi, w1, hoq, g1, gI_len, hz]
            refine hN (m - 1) _ (by omega) ?_
            dsimp only [keepOnly_eq]
            refine ⟨i + 1, y2, r ++ [(i : Int)], f2, by omega, by simp -implicitDefEqProofs (disch := constructor; omega) [t0, t1, t6, t9, t31, t32, t33, hi, w1, hoq, g1, gI_len, hz], by simp -implicitDefEqProofs (disch := constructor; omega) [t0, t1, t6, t9, t31, t32, t33, hi, w1, hoq, g1, gI_len, hz], by simp -implicitDefEqProofs (disch := constructor; omega) [t0, t1, t6, t9, t31, t32, t33, hi, w1, hoq, g1, gI_len, hz], by simp -implicitDefEqProofs (disch := constructor; omega) [t0, t1, t6, t9, t31, t32, t33, hi, w1, hoq, g1, gI_len, hz], by simp -implicitDefEqProofs (disch := constructor; omega) [t0, t1, t6, t9, t31, t32, t33, hi, w1, hoq, g1, gI_len, hz], by simp -implicitDefEqProofs (disch := constructor; omega) [t0, t1, t6, t9, t31, t32, t33, hi, w1, hoq, g1, gI_len, hz], by simp -implicitDefEqProofs (disch := constructor; omega) [t0, t1, t6, t9, t31, t32, t33, hi, w1, hoq, g1, gI_len, hz], hq2, (by (try dsimp only [keepOnly_eq]); omega), by omega, (by (try dsimp only [keepOnly_eq]); omega), O2.keep' (by (try dsimp only [keepOnly_eq]); omega) fun _ _ => rfl, ?_, fun i hi => low2 i hi⟩
            rw [List.range_succ, List.map_append, List.filter_append, ← hr]
            simp [hz]
          · skip
            (try simp -implicitDefEqProofs (disch := constructor; omega) [t0, t1, t6, t9, t31, t32, t33, hi, w1, hoq, g1, gI_len, hz])
            refine s32_38 ?_
            simp -implicitDefEqProofs (disch := constructor; omega) [↓h32_38, t0, t1, t6, t9, t31, t32, t33, hi, w1, hoq, g1, gI_len, hz]
            refine hN (m - 1) _ (by omega) ?_
            dsimp only [keepOnly_eq]
            refine ⟨i + 1, y, r, fo, by omega, by simp -implicitDefEqProofs (disch := constructor; omega) [t0, t1, t6, t9, t31, t32, t33, hi, w1, hoq, g1, gI_len, hz], by simp -implicitDefEqProofs (disch := constructor; omega) [t0, t1, t6, t9, t31, t32, t33, hi, w1, hoq, g1, gI_len, hz], by simp -implicitDefEqProofs (disch := constructor; omega) [t0, t1, t6, t9, t31, t32, t33, hi, w1, hoq, g1, gI_len, hz], by simp -implicitDefEqProofs (disch := constructor; omega) [t0, t1, t6, t9, t31, t32, t33, hi, w1, hoq, g1, gI_len, hz], by simp -implicitDefEqProofs (disch := constructor; omega) [t0, t1, t6, t9, t31, t32, t33, hi, w1, hoq, g1, gI_len, hz], by simp -implicitDefEqProofs (disch := constructor; omega) [t0, t1, t6, t9, t31, t32, t33, hi, w1, hoq, g1, gI_len, hz], by simp -implicitDefEqProofs (disch := constructor; omega) [t0, t1, t6, t9, t31, t32, t33, hi, w1, hoq, g1, gI_len, hz], by simp -implicitDefEqProofs (disch := constructor; omega) [t0, t1, t6, t9, t31, t32, t33, hi, w1, hoq, g1, gI_len, hz], (by (try dsimp only [keepOnly_eq]); omega), by omega, (by (try dsimp only [keepOnly_eq]); omega), O.keep' (by (try dsimp only [keepOnly_eq]); omega) fun _ _ => rfl, ?_, fun i hi => ho i hi⟩
            rw [List.range_succ, List.map_append, List.filter_append, ← hr]
            simp [hz]
        · rename_i hi
          refine hE 2 _ ?_
          (try simp -implicitDefEqProofs (disch := constructor; omega) [t0, t1, t6, t9, t31, t32, t33])
          refine s32_39 ?_
          refine s32_40 ?_
          simp -implicitDefEqProofs (disch := constructor; omega) [↓h32_41, t0, t1, t6, t9, t31, t32, t33]
          refine s32_42 ?_
          have hin : i = n := by omega
          subst hin
          have S0 : SrtO i l r 0 f := by rw [hr, hf]; exact SrtO.start l
          clear hE hN hR hr
          refine s32_43 (fun m s => ∃ (k : Nat) (y : Cell) (r : List Int) (fo : Nat) (f : Int → Nat), k + m = i ∧ s.t 0 = .v (.one (.int .i64 i)) ∧ s.t 1 = .v (.one x) ∧ s.t 6 = .v (.one (.slice q 0 i)) ∧ s.t 9 = .v (.one y) ∧ s.t 12 = .v (.one (.int .i64 k)) ∧
            s.h.o q = some (.cells q false 3 1 (gI i f)) ∧ q < s.h.nx ∧ fo ≠ q ∧ fo < s.h.nx ∧ Own s.h.o h.nx s.h.nx y 3 1 enI r fo ∧ SrtO i l r k f ∧ ∀ i, i < h.nx → s.h.o i = h.o i) i ?_ ?_
          · exact ⟨0, y, r, fo, f, by omega, by simp -implicitDefEqProofs (disch := constructor; omega) [t0, t1, t6, t9, t31, t32, t33], by simp -implicitDefEqProofs (disch := constructor; omega) [t0, t1, t6, t9, t31, t32, t33], by simp -implicitDefEqProofs (disch := constructor; omega) [t0, t1, t6, t9, t31, t32, t33], by simp -implicitDefEqProofs (disch := constructor; omega) [t0, t1, t6, t9, t31, t32, t33], by simp -implicitDefEqProofs (disch := constructor; omega) [t0, t1, t6, t9, t31, t32, t33], by simp -implicitDefEqProofs (disch := constructor; omega) [t0, t1, t6, t9, t31, t32, t33, hoq], (by (try dsimp only [keepOnly_eq]); omega), hfq, (by (try dsimp only [keepOnly_eq]); omega), O.keep' (by (try dsimp only [keepOnly_eq]); omega) fun _ _ => rfl, S0, fun i hi => ho i hi⟩
          · clear S0 ho hoq O hfn hfq t0 t1 t6 t9 t31 t32 t33 hf hqn hm
            rintro mo s Q2 ⟨k, y, r, fo, f, hm, t0, t1, t6, t9, t12, hoq, hqn, hfq, hfn, O, S, ho⟩ hN hE hR
            have leny := O.view.lenV (fs := fs) (out := out)
            refine s32_44 ?_
            refine s32_45 ?_
            simp -implicitDefEqProofs (disch := constructor; omega) [↓h32_46, t0, t1, t6, t9, t12, leny, lenx]
            refine s32_47 ?_
            simp -implicitDefEqProofs (disch := constructor; omega) [t0, t1, t6, t9, t12, leny, lenx]
            split
            · rename_i hi
              refine s32_48 ?_
              refine s32_49 ?_
              refine s32_50 ?_
              simp -implicitDefEqProofs (disch := constructor; omega) [↓h32_51, t0, t1, t6, t9, t12, leny, lenx]
              refine s32_52 ?_
              have SI := S.inn (by omega)
              have hkl : k ≤ i := by have := S.len; omega
              refine s32_53 (fun m s => ∃ (c : Nat) (y : Cell) (r : List Int) (fo : Nat) (f : Int → Nat), c + m = l.length ∧ s.t 0 = .v (.one (.int .i64 i)) ∧ s.t 1 = .v (.one x) ∧ s.t 6 = .v (.one (.slice q 0 i)) ∧ s.t 9 = .v (.one y) ∧ s.t 12 = .v (.one (.int .i64 k)) ∧
                s.t 51 = .v (.one x) ∧ s.t 52 = .v (.one (.int .i64 l.length)) ∧ s.t 53 = .v (.one (.int .i64 c)) ∧
                s.h.o q = some (.cells q false 3 1 (gI i f)) ∧ q < s.h.nx ∧ fo ≠ q ∧ fo < s.h.nx ∧ Own s.h.o h.nx s.h.nx y 3 1 enI r fo ∧ SrtI i l r c k f ∧ ∀ i, i < h.nx → s.h.o i = h.o i) l.length ?_ ?_
              · exact ⟨0, y, r, fo, f, by omega, by simp -implicitDefEqProofs (disch := constructor; omega) [t0, t1, t6, t9, t12, leny, lenx], by simp -implicitDefEqProofs (disch := constructor; omega) [t0, t1, t6, t9, t12, leny, lenx], by simp -implicitDefEqProofs (disch := constructor; omega) [t0, t1, t6, t9, t12, leny, lenx], by simp -implicitDefEqProofs (disch := constructor; omega) [t0, t1, t6, t9, t12, leny, lenx], by simp -implicitDefEqProofs (disch := constructor; omega) [t0, t1, t6, t9, t12, leny, lenx], by simp -implicitDefEqProofs (disch := constructor; omega) [t0, t1, t6, t9, t12, leny, lenx], by simp -implicitDefEqProofs (disch := constructor; omega) [t0, t1, t6, t9, t12, leny, lenx], by simp -implicitDefEqProofs (disch := constructor; omega) [t0, t1, t6, t9, t12, leny, lenx], by simp -implicitDefEqProofs (disch := constructor; omega) [t0, t1, t6, t9, t12, leny, lenx, hoq], (by (try dsimp only [keepOnly_eq]); omega), hfq, (by (try dsimp only [keepOnly_eq]); omega), O.keep' (by (try dsimp only [keepOnly_eq]); omega) fun _ _ => rfl, SI, fun i hi => ho i hi⟩
              · clear S ho hoq O hfn hfq t0 t1 t6 t9 t12 hqn leny SI hi
                rintro m s Q3 ⟨c, y, r, fo, f, hm', t0, t1, t6, t9, t12, t51, t52, t53, hoq, hqn, hfq, hfn, O, S, ho⟩ hN' hE' hR'
                refine s32_54 ?_
                simp -implicitDefEqProofs (disch := constructor; omega) [↓h32_55, t0, t1, t6, t9, t12, t51, t52, t53]
                refine s32_56 ?_
                simp -implicitDefEqProofs (disch := constructor; omega) [t0, t1, t6, t9, t12, t51, t52, t53]
                split
                · rename_i hi
                  obtain ⟨j, f1, ro, e, w, cs, rfl, hj, hcs, hl1, hg1, hg2, hg3⟩ := v.get enW_len hi
                  have hcs' := (ho j hj).trans hcs
                  obtain ⟨j', f', ro', e', w', cs', rfl, hj', hc', hl', hg'⟩ := O.view.get1 (g := (Cell.int .i64 ·)) (fun _ => rfl) (i := k) S.lt
                  have hkr := S.lt
                  obtain ⟨p, hpe⟩ : ∃ p, p = l[c] := ⟨_, rfl⟩
                  rw [← hpe] at hg2 hg1 hg3
                  have hmem : p ∈ l := by rw [hpe]; exact List.getElem_mem hi
                  have hwp := hw p hmem
                  obtain ⟨pf0, pfn, pt0, ptn⟩ := hw p hmem
                  obtain ⟨u, hu⟩ : ∃ u : Nat, p.t = u := ⟨p.t.toNat, by omega⟩
                  have hun : u < i := by omega
                  have w1 := wrap64 (show -9223372036854775808 ≤ (c : Int) + 1 by omega) (by omega)
                  refine s32_58 ?_
                  refine s32_59 ?_
                  refine s32_60 ?_
                  simp -implicitDefEqProofs (disch := constructor; omega) [↓h32_61, t0, t1, t6, t9, t12, t51, t52, t53, hi, w1, hl1, hcs', hg2, enW, hc', hg', hl', hkr, hu]
                  refine s32_62 ?_
                  refine s32_63 ?_
                  simp -implicitDefEqProofs (disch := constructor; omega) [↓h32_64, t0, t1, t6, t9, t12, t51, t52, t53, hi, w1, hl1, hcs', hg2, enW, hc', hg', hl', hkr, hu]
                  refine s32_65 ?_
                  simp -implicitDefEqProofs (disch := constructor; omega) [t0, t1, t6, t9, t12, t51, t52, t53, hi, w1, hl1, hcs', hg2, enW, hc', hg', hl', hkr, hu]
                  by_cases hpf : p.f = r[k]
                  · skip
                    (try simp -implicitDefEqProofs (disch := constructor; omega) [t0, t1, t6, t9, t12, t51, t52, t53, hi, w1, hl1, hcs', hg2, enW, hc', hg', hl', hkr, hu, hpf])
                    obtain ⟨d, hd⟩ : ∃ d, f u = d + 1 := by
                      have := S.pos hi (by rw [← hpe]; exact hwp) (by rw [← hpe]; exact hpf)
                      rw [← hpe, hu] at this
                      exact ⟨_, this⟩
                    have hdl : d + 1 ≤ l.length + l.length := by
                      rw [← hd, S.fe u (by omega) (by omega)]; exact fW_le _ _ _ _ _
                    have g1 : (gI i f)[u]? = some (.int .i64 ((d : Int) + 1)) := by rw [gI_get hun, hd]; rfl
                    have g2 := gI_set (f := f) hun d
                    have g3 : (gI i (updI f u d))[u]? = some (.int .i64 d) := by rw [gI_get hun]; simp [updI]
                    have w2 := wrap64 (show -9223372036854775808 ≤ (d : Int) by omega) (by omega)
                    have hudd : updI f l[c].t (f l[c].t - 1) = updI f u d := by rw [← hpe, hu, hd]; rfl
                    have hfd : f l[c].t - 1 = d := by rw [← hpe, hu, hd]; rfl
                    have hneq : ∀ i cs, s.h.o i = some (.cells fo false 3 1 cs) → i ≠ q := fun i cs h3 e => by
                      subst e; rw [hoq] at h3; simp at h3; exact hfq h3.1.symm
                    have kb : ∀ (b : Nat) (B C : Option AObj) i, s.h.nx ≤ b → i < s.h.nx → i ≠ q → (i < h.nx ∨ notFam q (s.h.o i)) → upd (killBut q q (upd s.h.o b B)) q C i = s.h.o i := fun b B C i h0 h1 h2 h3 => by
                      have e : upd s.h.o b B i = s.h.o i := updO_ne _ _ _ _ ⟨by omega⟩
                      rw [updO_ne _ _ _ _ ⟨h2⟩]
                      rcases h3 with h3 | h3
                      · rw [killBut_old (by omega), e]
                      · rw [killBut_not (by rw [e]; exact h3), e]
                    refine s32_66 ?_
                    simp -implicitDefEqProofs (disch := first | (refine NE.mk ?_; first | omega | assumption) | (refine LTn.mk ?_; omega) | (refine NFam.mk ?_; simp only [hun, hoq, g1, g2, g3, gI_len, updO_same, notFam_cells]; omega)) [↓h32_67, t0, t1, t6, t9, t12, t51, t52, t53, hi, w1, w2, hun, hoq, g1, g2, g3, gI_len, Nat.min_self, -List.length_flatMap]
                    refine s32_68 ?_
                    simp -implicitDefEqProofs (disch := first | (refine NE.mk ?_; first | omega | assumption) | (refine LTn.mk ?_; omega) | (refine NFam.mk ?_; simp only [hun, hoq, g1, g2, g3, gI_len, updO_same, notFam_cells]; omega)) [↓h32_69, t0, t1, t6, t9, t12, t51, t52, t53, hi, w1, w2, hun, hoq, g1, g2, g3, gI_len, Nat.min_self, -List.length_flatMap]
                    refine s32_70 ?_
                    simp -implicitDefEqProofs (disch := first | (refine NE.mk ?_; first | omega | assumption) | (refine LTn.mk ?_; omega) | (refine NFam.mk ?_; simp only [hun, hoq, g1, g2, g3, gI_len, updO_same, notFam_cells]; omega)) [t0, t1, t6, t9, t12, t51, t52, t53, hi, w1, w2, hun, hoq, g1, g2, g3, gI_len, Nat.min_self, -List.length_flatMap]
                    by_cases hz : d = 0
                    · skip
                      (try simp -implicitDefEqProofs (disch := first | (refine NE.mk ?_; first | omega | assumption) | (refine LTn.mk ?_; omega) | (refine NFam.mk ?_; simp only [hun, hoq, g1, g2, g3, gI_len, hz, updO_same, notFam_cells]; omega)) [t0, t1, t6, t9, t12, t51, t52, t53, hi, w1, w2, hun, hoq, g1, g2, g3, gI_len, hz, Nat.min_self, -List.length_flatMap])
                      refine s32_71 ?_
                      simp -implicitDefEqProofs (disch := first | (refine NE.mk ?_; first | omega | assumption) | (refine LTn.mk ?_; omega) | (refine NFam.mk ?_; simp only [hun, hoq, g1, g2, g3, gI_len, hz, updO_same, notFam_cells]; omega)) [↓h32_71, ↓h32_71_1, t0, t1, t6, t9, t12, t51, t52, t53, hi, w1, w2, hun, hoq, g1, g2, g3, gI_len, hz, Nat.min_self, -List.length_flatMap]
                      refine app_own (f := fo) (lo := h.nx) (n := s.h.nx) (x := .slice j' 0 r.length) (l := r) (l2 := [(u : Int)]) (enc := enI) ?_ ?_ ?_ (src_one (f := s.h.nx + 1 + 4 + 7 + 8 + 6 + 3) (ro := false) (e := 3) (s := 1) (w := 1) ?_ rfl) enI_len enI_solid (show 0 < 1 by omega) ⟨?_, ?_⟩ ?_
                      · (try dsimp only)
                        omega
                      · (try dsimp only)
                        omega
                      · refine O.keep (Nat.le_refl _) fun i cs h1 h2 h3 => ?_
                        (try dsimp only)
                        rw [updO_ne _ _ _ _ ⟨by omega⟩]
                        exact kb _ _ _ i (by omega) h2 (hneq i cs h3) (.inr (by rw [h3]; exact hfq))
                      · (try simp -implicitDefEqProofs (disch := first | (refine NE.mk ?_; first | omega | assumption) | (refine LTn.mk ?_; omega) | (refine NFam.mk ?_; simp only [hun, hoq, g1, g2, g3, gI_len, hz, enI, updO_same, notFam_cells]; omega)) [t0, t1, t6, t9, t12, t51, t52, t53, hi, w1, w2, hun, hoq, g1, g2, g3, gI_len, hz, enI, Nat.min_self, -List.length_flatMap])
                      · have := nd_len _ _ S.nd S.rg
                        simp; omega
                      · have := nd_len _ _ S.nd S.rg
                        simp; omega
                      rintro y2 f2 o2 O2 hf2 ho2
                      (try dsimp only at ho2 hf2 O2)
                      have hq2 : o2 q = some (.cells q false 3 1 (gI i (updI f u d))) := by
                        rw [ho2 q (by omega) (.inr (by simp -implicitDefEqProofs (disch := first | (refine NE.mk ?_; first | omega | assumption) | (refine LTn.mk ?_; omega) | (refine NFam.mk ?_; simp only [hun, hoq, g1, g2, g3, gI_len, hz, updO_same, notFam_cells]; omega)) [t0, t1, t6, t9, t12, t51, t52, t53, hi, w1, w2, hun, hoq, g1, g2, g3, gI_len, hz, Nat.min_self, -List.length_flatMap]; omega))]
                        (try simp -implicitDefEqProofs (disch := first | (refine NE.mk ?_; first | omega | assumption) | (refine LTn.mk ?_; omega) | (refine NFam.mk ?_; simp only [hun, hoq, g1, g2, g3, gI_len, hz, updO_same, notFam_cells]; omega)) [t0, t1, t6, t9, t12, t51, t52, t53, hi, w1, w2, hun, hoq, g1, g2, g3, gI_len, hz, Nat.min_self, -List.length_flatMap])
                      have low2 : ∀ i, i < h.nx → o2 i = h.o i := fun i hi => by
                        rw [ho2 i (by omega) (.inl hi), updO_ne _ _ _ _ ⟨by omega⟩, kb _ _ _ i (by omega) (by omega) (by omega) (.inl hi)]
                        exact ho i hi
                      clear ho2
                      (try simp -implicitDefEqProofs (disch := first | (refine NE.mk ?_; first | omega | assumption) | (refine LTn.mk ?_; omega) | (refine NFam.mk ?_; simp only [hun, hoq, g1, g2, g3, gI_len, hz, updO_same, notFam_cells]; omega)) [↓h32_71, ↓h32_71_1, t0, t1, t6, t9, t12, t51, t52, t53, hi, w1, w2, hun, hoq, g1, g2, g3, gI_len, hz, Nat.min_self, -List.length_flatMap])
                      refine s32_72 ?_
                      simp -implicitDefEqProofs (disch := first | (refine NE.mk ?_; first | omega | assumption) | (refine LTn.mk ?_; omega) | (refine NFam.mk ?_; simp only [hun, hoq, g1, g2, g3, gI_len, hz, updO_same, notFam_cells]; omega)) [↓h32_72, t0, t1, t6, t9, t12, t51, t52, t53, hi, w1, w2, hun, hoq, g1, g2, g3, gI_len, hz, Nat.min_self, -List.length_flatMap]
                      refine hN' (m - 1) _ (by omega) ?_
                      dsimp only [keepOnly_eq]
                      refine ⟨c + 1, y2, r ++ [(u : Int)], f2, updI f u d, by omega, by simp -implicitDefEqProofs (disch := first | (refine NE.mk ?_; first | omega | assumption) | (refine LTn.mk ?_; omega) | (refine NFam.mk ?_; simp only [hun, hoq, g1, g2, g3, gI_len, hz, updO_same, notFam_cells]; omega)) [t0, t1, t6, t9, t12, t51, t52, t53, hi, w1, w2, hun, hoq, g1, g2, g3, gI_len, hz, Nat.min_self, -List.length_flatMap], by simp -implicitDefEqProofs (disch := first | (refine NE.mk ?_; first | omega | assumption) | (refine LTn.mk ?_; omega) | (refine NFam.mk ?_; simp only [hun, hoq, g1, g2, g3, gI_len, hz, updO_same, notFam_cells]; omega)) [t0, t1, t6, t9, t12, t51, t52, t53, hi, w1, w2, hun, hoq, g1, g2, g3, gI_len, hz, Nat.min_self, -List.length_flatMap], by simp -implicitDefEqProofs (disch := first | (refine NE.mk ?_; first | omega | assumption) | (refine LTn.mk ?_; omega) | (refine NFam.mk ?_; simp only [hun, hoq, g1, g2, g3, gI_len, hz, updO_same, notFam_cells]; omega)) [t0, t1, t6, t9, t12, t51, t52, t53, hi, w1, w2, hun, hoq, g1, g2, g3, gI_len, hz, Nat.min_self, -List.length_flatMap], by simp -implicitDefEqProofs (disch := first | (refine NE.mk ?_; first | omega | assumption) | (refine LTn.mk ?_; omega) | (refine NFam.mk ?_; simp only [hun, hoq, g1, g2, g3, gI_len, hz, updO_same, notFam_cells]; omega)) [t0, t1, t6, t9, t12, t51, t52, t53, hi, w1, w2, hun, hoq, g1, g2, g3, gI_len, hz, Nat.min_self, -List.length_flatMap], by simp -implicitDefEqProofs (disch := first | (refine NE.mk ?_; first | omega | assumption) | (refine LTn.mk ?_; omega) | (refine NFam.mk ?_; simp only [hun, hoq, g1, g2, g3, gI_len, hz, updO_same, notFam_cells]; omega)) [t0, t1, t6, t9, t12, t51, t52, t53, hi, w1, w2, hun, hoq, g1, g2, g3, gI_len, hz, Nat.min_self, -List.length_flatMap], by simp -implicitDefEqProofs (disch := first | (refine NE.mk ?_; first | omega | assumption) | (refine LTn.mk ?_; omega) | (refine NFam.mk ?_; simp only [hun, hoq, g1, g2, g3, gI_len, hz, updO_same, notFam_cells]; omega)) [t0, t1, t6, t9, t12, t51, t52, t53, hi, w1, w2, hun, hoq, g1, g2, g3, gI_len, hz, Nat.min_self, -List.length_flatMap], by simp -implicitDefEqProofs (disch := first | (refine NE.mk ?_; first | omega | assumption) | (refine LTn.mk ?_; omega) | (refine NFam.mk ?_; simp only [hun, hoq, g1, g2, g3, gI_len, hz, updO_same, notFam_cells]; omega)) [t0, t1, t6, t9, t12, t51, t52, t53, hi, w1, w2, hun, hoq, g1, g2, g3, gI_len, hz, Nat.min_self, -List.length_flatMap], by simp -implicitDefEqProofs (disch := first | (refine NE.mk ?_; first | omega | assumption) | (refine LTn.mk ?_; omega) | (refine NFam.mk ?_; simp only [hun, hoq, g1, g2, g3, gI_len, hz, updO_same, notFam_cells]; omega)) [t0, t1, t6, t9, t12, t51, t52, t53, hi, w1, w2, hun, hoq, g1, g2, g3, gI_len, hz, Nat.min_self, -List.length_flatMap], hq2, (by (try dsimp only [keepOnly_eq]); omega), by omega, (by (try dsimp only [keepOnly_eq]); omega), O2.keep' (by (try dsimp only [keepOnly_eq]); omega) fun _ _ => rfl, ?_, fun i hi => low2 i hi⟩
                      have h1 := S.app hi (by rw [← hpe]; exact hwp) (by rw [← hpe]; exact hpf) (by rw [hfd]; exact hz)
                      rw [hudd, ← hpe, hu] at h1
                      exact h1
                    · skip
                      (try simp -implicitDefEqProofs (disch := first | (refine NE.mk ?_; first | omega | assumption) | (refine LTn.mk ?_; omega) | (refine NFam.mk ?_; simp only [hun, hoq, g1, g2, g3, gI_len, hz, updO_same, notFam_cells]; omega)) [t0, t1, t6, t9, t12, t51, t52, t53, hi, w1, w2, hun, hoq, g1, g2, g3, gI_len, hz, Nat.min_self, -List.length_flatMap])
                      refine s32_72 ?_
                      simp -implicitDefEqProofs (disch := first | (refine NE.mk ?_; first | omega | assumption) | (refine LTn.mk ?_; omega) | (refine NFam.mk ?_; simp only [hun, hoq, g1, g2, g3, gI_len, hz, updO_same, notFam_cells]; omega)) [↓h32_72, t0, t1, t6, t9, t12, t51, t52, t53, hi, w1, w2, hun, hoq, g1, g2, g3, gI_len, hz, Nat.min_self, -List.length_flatMap]
                      refine hN' (m - 1) _ (by omega) ?_
                      dsimp only [keepOnly_eq]
                      refine ⟨c + 1, _, r, fo, updI f u d, by omega, by simp -implicitDefEqProofs (disch := first | (refine NE.mk ?_; first | omega | assumption) | (refine LTn.mk ?_; omega) | (refine NFam.mk ?_; simp only [hun, hoq, g1, g2, g3, gI_len, hz, updO_same, notFam_cells]; omega)) [t0, t1, t6, t9, t12, t51, t52, t53, hi, w1, w2, hun, hoq, g1, g2, g3, gI_len, hz, Nat.min_self, -List.length_flatMap], by simp -implicitDefEqProofs (disch := first | (refine NE.mk ?_; first | omega | assumption) | (refine LTn.mk ?_; omega) | (refine NFam.mk ?_; simp only [hun, hoq, g1, g2, g3, gI_len, hz, updO_same, notFam_cells]; omega)) [t0, t1, t6, t9, t12, t51, t52, t53, hi, w1, w2, hun, hoq, g1, g2, g3, gI_len, hz, Nat.min_self, -List.length_flatMap], by simp -implicitDefEqProofs (disch := first | (refine NE.mk ?_; first | omega | assumption) | (refine LTn.mk ?_; omega) | (refine NFam.mk ?_; simp only [hun, hoq, g1, g2, g3, gI_len, hz, updO_same, notFam_cells]; omega)) [t0, t1, t6, t9, t12, t51, t52, t53, hi, w1, w2, hun, hoq, g1, g2, g3, gI_len, hz, Nat.min_self, -List.length_flatMap], by simp -implicitDefEqProofs (disch := first | (refine NE.mk ?_; first | omega | assumption) | (refine LTn.mk ?_; omega) | (refine NFam.mk ?_; simp only [hun, hoq, g1, g2, g3, gI_len, hz, updO_same, notFam_cells]; omega)) [t0, t1, t6, t9, t12, t51, t52, t53, hi, w1, w2, hun, hoq, g1, g2, g3, gI_len, hz, Nat.min_self, -List.length_flatMap], by simp -implicitDefEqProofs (disch := first | (refine NE.mk ?_; first | omega | assumption) | (refine LTn.mk ?_; omega) | (refine NFam.mk ?_; simp only [hun, hoq, g1, g2, g3, gI_len, hz, updO_same, notFam_cells]; omega)) [t0, t1, t6, t9, t12, t51, t52, t53, hi, w1, w2, hun, hoq, g1, g2, g3, gI_len, hz, Nat.min_self, -List.length_flatMap], by simp -implicitDefEqProofs (disch := first | (refine NE.mk ?_; first | omega | assumption) | (refine LTn.mk ?_; omega) | (refine NFam.mk ?_; simp only [hun, hoq, g1, g2, g3, gI_len, hz, updO_same, notFam_cells]; omega)) [t0, t1, t6, t9, t12, t51, t52, t53, hi, w1, w2, hun, hoq, g1, g2, g3, gI_len, hz, Nat.min_self, -List.length_flatMap], by simp -implicitDefEqProofs (disch := first | (refine NE.mk ?_; first | omega | assumption) | (refine LTn.mk ?_; omega) | (refine NFam.mk ?_; simp only [hun, hoq, g1, g2, g3, gI_len, hz, updO_same, notFam_cells]; omega)) [t0, t1, t6, t9, t12, t51, t52, t53, hi, w1, w2, hun, hoq, g1, g2, g3, gI_len, hz, Nat.min_self, -List.length_flatMap], by simp -implicitDefEqProofs (disch := first | (refine NE.mk ?_; first | omega | assumption) | (refine LTn.mk ?_; omega) | (refine NFam.mk ?_; simp only [hun, hoq, g1, g2, g3, gI_len, hz, updO_same, notFam_cells]; omega)) [t0, t1, t6, t9, t12, t51, t52, t53, hi, w1, w2, hun, hoq, g1, g2, g3, gI_len, hz, Nat.min_self, -List.length_flatMap], by simp -implicitDefEqProofs (disch := first | (refine NE.mk ?_; first | omega | assumption) | (refine LTn.mk ?_; omega) | (refine NFam.mk ?_; simp only [hun, hoq, g1, g2, g3, gI_len, hz, updO_same, notFam_cells]; omega)) [t0, t1, t6, t9, t12, t51, t52, t53, hi, w1, w2, hun, hoq, g1, g2, g3, gI_len, hz, Nat.min_self, -List.length_flatMap], (by (try dsimp only [keepOnly_eq]); omega), hfq, (by (try dsimp only [keepOnly_eq]); omega), O.keep (by (try dsimp only [keepOnly_eq]); omega) fun i cs h1 h2 h3 => ?_, ?_, fun i hi => ?_⟩
                      · exact kb _ _ _ i (by omega) h2 (hneq i cs h3) (.inr (by rw [h3]; exact hfq))
                      · rw [← hudd]
                        exact S.dec hi (by rw [← hpe]; exact hwp) (by rw [← hpe]; exact hpf) (by rw [hfd]; exact hz)
                      · (try simp -implicitDefEqProofs (disch := first | (refine NE.mk ?_; first | omega | assumption) | (refine LTn.mk ?_; omega) | (refine NFam.mk ?_; simp only [hun, hoq, g1, g2, g3, gI_len, hz, updO_same, notFam_cells]; omega)) [t0, t1, t6, t9, t12, t51, t52, t53, hi, w1, w2, hun, hoq, g1, g2, g3, gI_len, hz, Nat.min_self, -List.length_flatMap])
                        exact ho i hi
                  · skip
                    (try simp -implicitDefEqProofs (disch := first | (refine NE.mk ?_; first | omega | assumption) | (refine LTn.mk ?_; omega) | (refine NFam.mk ?_; simp only [hcs', hc', hkr, hu, hpf, updO_same, notFam_cells]; omega)) [t0, t1, t6, t9, t12, t51, t52, t53, hi, w1, hl1, hcs', hg2, enW, hc', hg', hl', hkr, hu, hpf, Nat.min_self, -List.length_flatMap])
                    refine s32_72 ?_
                    simp -implicitDefEqProofs (disch := first | (refine NE.mk ?_; first | omega | assumption) | (refine LTn.mk ?_; omega) | (refine NFam.mk ?_; simp only [hcs', hc', hkr, hu, hpf, updO_same, notFam_cells]; omega)) [↓h32_72, t0, t1, t6, t9, t12, t51, t52, t53, hi, w1, hl1, hcs', hg2, enW, hc', hg', hl', hkr, hu, hpf, Nat.min_self, -List.length_flatMap]
                    refine hN' (m - 1) _ (by omega) ?_
                    dsimp only [keepOnly_eq]
                    refine ⟨c + 1, _, r, fo, f, by omega, by simp -implicitDefEqProofs (disch := first | (refine NE.mk ?_; first | omega | assumption) | (refine LTn.mk ?_; omega) | (refine NFam.mk ?_; simp only [hcs', hc', hkr, hu, hpf, updO_same, notFam_cells]; omega)) [t0, t1, t6, t9, t12, t51, t52, t53, hi, w1, hl1, hcs', hg2, enW, hc', hg', hl', hkr, hu, hpf, Nat.min_self, -List.length_flatMap], by simp -implicitDefEqProofs (disch := first | (refine NE.mk ?_; first | omega | assumption) | (refine LTn.mk ?_; omega) | (refine NFam.mk ?_; simp only [hcs', hc', hkr, hu, hpf, updO_same, notFam_cells]; omega)) [t0, t1, t6, t9, t12, t51, t52, t53, hi, w1, hl1, hcs', hg2, enW, hc', hg', hl', hkr, hu, hpf, Nat.min_self, -List.length_flatMap], by simp -implicitDefEqProofs (disch := first | (refine NE.mk ?_; first | omega | assumption) | (refine LTn.mk ?_; omega) | (refine NFam.mk ?_; simp only [hcs', hc', hkr, hu, hpf, updO_same, notFam_cells]; omega)) [t0, t1, t6, t9, t12, t51, t52, t53, hi, w1, hl1, hcs', hg2, enW, hc', hg', hl', hkr, hu, hpf, Nat.min_self, -List.length_flatMap], by simp -implicitDefEqProofs (disch := first | (refine NE.mk ?_; first | omega | assumption) | (refine LTn.mk ?_; omega) | (refine NFam.mk ?_; simp only [hcs', hc', hkr, hu, hpf, updO_same, notFam_cells]; omega)) [t0, t1, t6, t9, t12, t51, t52, t53, hi, w1, hl1, hcs', hg2, enW, hc', hg', hl', hkr, hu, hpf, Nat.min_self, -List.length_flatMap], by simp -implicitDefEqProofs (disch := first | (refine NE.mk ?_; first | omega | assumption) | (refine LTn.mk ?_; omega) | (refine NFam.mk ?_; simp only [hcs', hc', hkr, hu, hpf, updO_same, notFam_cells]; omega)) [t0, t1, t6, t9, t12, t51, t52, t53, hi, w1, hl1, hcs', hg2, enW, hc', hg', hl', hkr, hu, hpf, Nat.min_self, -List.length_flatMap], by simp -implicitDefEqProofs (disch := first | (refine NE.mk ?_; first | omega | assumption) | (refine LTn.mk ?_; omega) | (refine NFam.mk ?_; simp only [hcs', hc', hkr, hu, hpf, updO_same, notFam_cells]; omega)) [t0, t1, t6, t9, t12, t51, t52, t53, hi, w1, hl1, hcs', hg2, enW, hc', hg', hl', hkr, hu, hpf, Nat.min_self, -List.length_flatMap], by simp -implicitDefEqProofs (disch := first | (refine NE.mk ?_; first | omega | assumption) | (refine LTn.mk ?_; omega) | (refine NFam.mk ?_; simp only [hcs', hc', hkr, hu, hpf, updO_same, notFam_cells]; omega)) [t0, t1, t6, t9, t12, t51, t52, t53, hi, w1, hl1, hcs', hg2, enW, hc', hg', hl', hkr, hu, hpf, Nat.min_self, -List.length_flatMap], by simp -implicitDefEqProofs (disch := first | (refine NE.mk ?_; first | omega | assumption) | (refine LTn.mk ?_; omega) | (refine NFam.mk ?_; simp only [hcs', hc', hkr, hu, hpf, updO_same, notFam_cells]; omega)) [t0, t1, t6, t9, t12, t51, t52, t53, hi, w1, hl1, hcs', hg2, enW, hc', hg', hl', hkr, hu, hpf, Nat.min_self, -List.length_flatMap], by simp -implicitDefEqProofs (disch := first | (refine NE.mk ?_; first | omega | assumption) | (refine LTn.mk ?_; omega) | (refine NFam.mk ?_; simp only [hcs', hc', hkr, hu, hpf, hoq, updO_same, notFam_cells]; omega)) [t0, t1, t6, t9, t12, t51, t52, t53, hi, w1, hl1, hcs', hg2, enW, hc', hg', hl', hkr, hu, hpf, hoq, Nat.min_self, -List.length_flatMap], (by (try dsimp only [keepOnly_eq]); omega), hfq, (by (try dsimp only [keepOnly_eq]); omega), O.keep' (by (try dsimp only [keepOnly_eq]); omega) fun i hi => (by simp -implicitDefEqProofs (disch := first | (refine NE.mk ?_; first | omega | assumption) | (refine LTn.mk ?_; omega) | (refine NFam.mk ?_; simp only [hcs', hc', hkr, hu, hpf, updO_same, notFam_cells]; omega)) [t0, t1, t6, t9, t12, t51, t52, t53, hi, w1, hl1, hcs', hg2, enW, hc', hg', hl', hkr, hu, hpf, Nat.min_self, -List.length_flatMap]), S.skip hi (by rw [← hpe]; exact hpf), fun i hi => by simp -implicitDefEqProofs (disch := first | (refine NE.mk ?_; first | omega | assumption) | (refine LTn.mk ?_; omega) | (refine NFam.mk ?_; simp only [hcs', hc', hkr, hu, hpf, updO_same, notFam_cells]; omega)) [t0, t1, t6, t9, t12, t51, t52, t53, hi, w1, hl1, hcs', hg2, enW, hc', hg', hl', hkr, hu, hpf, Nat.min_self, -List.length_flatMap]; exact ho i hi⟩
                · rename_i hi
                  have hcl : c = l.length := by omega
                  subst hcl
                  have w1 := wrap64 (show -9223372036854775808 ≤ (k : Int) + 1 by omega) (by omega)
                  refine hE' 6 _ ?_
                  (try simp -implicitDefEqProofs (disch := first | (refine NE.mk ?_; first | omega | assumption) | (refine LTn.mk ?_; omega) | (refine NFam.mk ?_; simp only [updO_same, notFam_cells]; omega)) [t0, t1, t6, t9, t12, t51, t52, t53, w1, Nat.min_self, -List.length_flatMap])
                  refine s32_73 ?_
                  simp -implicitDefEqProofs (disch := first | (refine NE.mk ?_; first | omega | assumption) | (refine LTn.mk ?_; omega) | (refine NFam.mk ?_; simp only [updO_same, notFam_cells]; omega)) [↓h32_73, t0, t1, t6, t9, t12, t51, t52, t53, w1, Nat.min_self, -List.length_flatMap]
                  refine hN (mo - 1) _ (by have := S.out.len; have := S.lt; omega) ?_
                  dsimp only [keepOnly_eq]
                  refine ⟨k + 1, y, r, fo, f, by have := S.out.len; have := S.lt; omega, by simp -implicitDefEqProofs (disch := first | (refine NE.mk ?_; first | omega | assumption) | (refine LTn.mk ?_; omega) | (refine NFam.mk ?_; simp only [updO_same, notFam_cells]; omega)) [t0, t1, t6, t9, t12, t51, t52, t53, w1, Nat.min_self, -List.length_flatMap], by simp -implicitDefEqProofs (disch := first | (refine NE.mk ?_; first | omega | assumption) | (refine LTn.mk ?_; omega) | (refine NFam.mk ?_; simp only [updO_same, notFam_cells]; omega)) [t0, t1, t6, t9, t12, t51, t52, t53, w1, Nat.min_self, -List.length_flatMap], by simp -implicitDefEqProofs (disch := first | (refine NE.mk ?_; first | omega | assumption) | (refine LTn.mk ?_; omega) | (refine NFam.mk ?_; simp only [updO_same, notFam_cells]; omega)) [t0, t1, t6, t9, t12, t51, t52, t53, w1, Nat.min_self, -List.length_flatMap], by simp -implicitDefEqProofs (disch := first | (refine NE.mk ?_; first | omega | assumption) | (refine LTn.mk ?_; omega) | (refine NFam.mk ?_; simp only [updO_same, notFam_cells]; omega)) [t0, t1, t6, t9, t12, t51, t52, t53, w1, Nat.min_self, -List.length_flatMap], by simp -implicitDefEqProofs (disch := first | (refine NE.mk ?_; first | omega | assumption) | (refine LTn.mk ?_; omega) | (refine NFam.mk ?_; simp only [updO_same, notFam_cells]; omega)) [t0, t1, t6, t9, t12, t51, t52, t53, w1, Nat.min_self, -List.length_flatMap], by simp -implicitDefEqProofs (disch := first | (refine NE.mk ?_; first | omega | assumption) | (refine LTn.mk ?_; omega) | (refine NFam.mk ?_; simp only [hoq, updO_same, notFam_cells]; omega)) [t0, t1, t6, t9, t12, t51, t52, t53, w1, hoq, Nat.min_self, -List.length_flatMap], (by (try dsimp only [keepOnly_eq]); omega), hfq, (by (try dsimp only [keepOnly_eq]); omega), O.keep' (by (try dsimp only [keepOnly_eq]); omega) fun _ _ => rfl, S.out, fun i hi => ho i hi⟩
            · rename_i hi
              refine hE 4 _ ?_
              (try simp -implicitDefEqProofs (disch := first | (refine NE.mk ?_; first | omega | assumption) | (refine LTn.mk ?_; omega) | (refine NFam.mk ?_; simp only [updO_same, notFam_cells]; omega)) [t0, t1, t6, t9, t12, leny, lenx, Nat.min_self, -List.length_flatMap])
              refine s32_74 ?_
              simp -implicitDefEqProofs (disch := first | (refine NE.mk ?_; first | omega | assumption) | (refine LTn.mk ?_; omega) | (refine NFam.mk ?_; simp only [updO_same, notFam_cells]; omega)) [↓h32_75, t0, t1, t6, t9, t12, leny, lenx, Nat.min_self, -List.length_flatMap]
              have hlen2 : ((r.length : Int) == (i : Int)) = decide (r.length = i) := by by_cases e : r.length = i <;> simp [e] <;> omega
              refine hQ _ _ _ (.inr rfl) (by simp only [resc, resv, List.mapM_cons, List.mapM_nil, a32]; simp -implicitDefEqProofs (disch := first | (refine NE.mk ?_; first | omega | assumption) | (refine LTn.mk ?_; omega) | (refine NFam.mk ?_; simp only [updO_same, notFam_cells]; omega)) [t0, t1, t6, t9, t12, leny, lenx, Nat.min_self, -List.length_flatMap]; rfl) ⟨y, r, fo, ?_, S.fin (by omega), O.keep' (by (try dsimp only [keepOnly_eq]); omega) fun _ _ => rfl, (by (try dsimp only [keepOnly_eq]); omega), fun i hi => ho i hi⟩
              rw [hlen2]
end Go.Proofs.Ythoicdnlcnppgaa.Fn
