/- Contracts: topological. Conditions: none. -/
import Derived.Test.YthoicdnlcnppgaaD11
set_option linter.unusedVariables false
set_option linter.unusedSimpArgs false
namespace Go.Proofs.Ythoicdnlcnppgaa.Fn
open Go Go.Am
set_option maxRecDepth 100000
set_option maxHeartbeats 1000000
/-- Whether moment i can come next. -/
def frS (r : List Int) (i : Int) (w : List Wt) : Bool := !decide (i ∈ r) && w.all fun x => !decide (x.t = i) || decide (x.f ∈ r)
theorem frS_nil {r : List Int} {i : Int} : frS r i [] = !decide (i ∈ r) := by simp [frS]
theorem frS_step {r : List Int} {i : Int} {w : List Wt} {k : Nat} (h : k < w.length) : frS r i (w.take (k + 1)) = (frS r i (w.take k) && (!decide (w[k].t = i) || decide (w[k].f ∈ r))) := by
  unfold frS; rw [List.take_succ_eq_append_getElem h, List.all_append]; simp [Bool.and_assoc]
def gD (n : Nat) (r : List Int) : List Cell := gB n fun v => decide (v ∈ r)
theorem gD_len {n : Nat} {r : List Int} : (gD n r).length = n := gB_len
theorem gD_get {n : Nat} {r : List Int} {i : Nat} (h : i < n) : (gD n r)[i]? = some (.bool (decide ((i : Int) ∈ r))) := gB_get h
theorem gD_nil {n : Nat} : reps [Cell.bool false] n = gD n [] := by rw [gB_zero]; unfold gD; simp
theorem gD_set {n : Nat} {r : List Int} {u : Nat} (h : u < n) : (gD n r).set u (.bool true) = gD n (r ++ [(u : Int)]) := by
  unfold gD
  rw [gB_set h]
  congr 1
  funext v
  unfold updZ
  by_cases e : v = u <;> simp [e]
structure TopI (n : Nat) (w : List Wt) (r : List Int) : Prop where
  nd : r.Nodup
  rg : ∀ v ∈ r, 0 ≤ v ∧ v < n
  tp : ∀ j (hj : j < r.length), ∀ x ∈ w, x.t = r[j] → x.f ∈ r.take j
theorem frS_iff {r : List Int} {i : Int} {w : List Wt} : frS r i w = true ↔ i ∉ r ∧ ∀ x ∈ w, x.t = i → x.f ∈ r := by
  unfold frS
  rw [Bool.and_eq_true, List.all_eq_true]
  simp only [Bool.not_eq_true', decide_eq_false_iff_not, Bool.or_eq_true, decide_eq_true_eq]
  constructor
  · rintro ⟨a, b⟩
    exact ⟨a, fun x hx hxt => (b x hx).resolve_left fun h => h hxt⟩
  · rintro ⟨a, b⟩
    refine ⟨a, fun x hx => ?_⟩
    by_cases e : x.t = i
    · exact .inr (b x hx e)
    · exact .inl e
theorem TopI.step {n : Nat} {w : List Wt} {r : List Int} {v : Int} (T : TopI n w r) (h : frS r v w = true) (h0 : 0 ≤ v) (h1 : v < n) : TopI n w (r ++ [v]) := by
  obtain ⟨a, b⟩ := frS_iff.1 h
  refine ⟨List.nodup_append.2 ⟨T.nd, by simp, fun x hx y hy e => ?_⟩, fun x hx => ?_, fun j hj x hx hxt => ?_⟩
  · simp at hy; subst hy; subst e; exact a hx
  · rcases List.mem_append.1 hx with hx | hx
    · exact T.rg x hx
    · simp at hx; subst hx; exact ⟨h0, h1⟩
  · by_cases hj2 : j < r.length
    · rw [List.getElem_append_left hj2] at hxt
      rw [List.take_append_of_le_length (by omega)]
      exact T.tp j hj2 x hx hxt
    · have hje : j = r.length := by simp at hj; omega
      subst hje
      simp at hxt
      rw [List.take_append_of_le_length (by omega), List.take_length]
      exact b x hx hxt
theorem TopI.all {n : Nat} {w : List Wt} {r : List Int} (T : TopI n w r) (h : n ≤ r.length) : SortQ n w r ∧ r.length = n := by
  have hl := nd_len n r T.nd T.rg
  refine ⟨⟨T.nd, T.rg, T.tp, fun v h0 h1 _ => ?_⟩, by omega⟩
  refine Classical.byContradiction fun hv => ?_
  have := nd_len n (v :: r) (List.nodup_cons.2 ⟨hv, T.nd⟩) fun y hy => by
    rcases List.mem_cons.1 hy with rfl | hy
    · omega
    · exact T.rg y hy
  simp at this; omega
theorem TopI.stuck {n : Nat} {w : List Wt} {r : List Int} (T : TopI n w r) (h : ∀ v : Int, 0 ≤ v → v < n → frS r v w = false) : SortQ n w r := by
  refine ⟨T.nd, T.rg, T.tp, fun v h0 h1 hv => Classical.byContradiction fun hn => ?_⟩
  have := frS_iff.2 ⟨hn, hv⟩
  rw [h v h0 h1] at this
  cases this
theorem _root_.Go.Am.Own.lo {α : Type} {enc : α → List Cell} {o : Nat → Option AObj} {lo lo' n : Nat} {x : Cell} {e w : Nat} {l : List α} {f : Nat} (h : Own o lo n x e w enc l f) (hl : lo' ≤ lo) : Own o lo' n x e w enc l f := by
  rcases h with h | ⟨j, h1, h2, h3, h4, h5⟩
  · exact .inl h
  · exact .inr ⟨j, h1, h2, by omega, h4, h5⟩
theorem k29 (n : Nat) (x : Cell) (w : List Wt) (h : AH) (v : View h.o h.nx x enW w) (hw : w.length < 9223372036854775807) (hn : n ≤ 64) (hin : ∀ x ∈ w, inW n x) :
    wF fs out 29 [.v (.one (.int .i64 n)), .v (.one x)] h fun res h' => ∃ y b r, res = .tup [.one y, .one (.bool b)] ∧ SortQ n w r ∧ (b = true ↔ r.length = n) ∧ (b = true → ∃ f, Own h'.o h.nx h'.nx y 3 1 enI r f) ∧ h.le h' := by
  refine wF_fn fs29 rfl fun Q hQ => ?_
  have lenx := v.lenV (fs := fs) (out := out)
  have hb1 : (n : Int) * 1 ≤ 140737488355328 := by omega
  have hb2 : (n : Int) ≤ 9223372036854775807 := by omega
  have hb3 : n ≤ 140737488355328 := by omega
  have hb4 : n ≤ 9223372036854775807 := by omega
  have hb5 : (n : Int) ≤ 140737488355328 := by omega
  refine s29_0 ?_
  simp -implicitDefEqProofs (disch := constructor; omega) [↓h29_1, lenx, hb1, hb2, hb3, hb4, hb5]
  refine s29_2 ?_
  simp -implicitDefEqProofs (disch := constructor; omega) [↓h29_3, lenx, hb1, hb2, hb3, hb4, hb5]
  refine s29_4 ?_
  simp -implicitDefEqProofs (disch := constructor; omega) [↓h29_5, lenx, hb1, hb2, hb3, hb4, hb5]
  refine s29_6 ?_
  refine s29_7 ?_
  obtain ⟨q, hq⟩ : ∃ q, q = h.nx + 2 + 1 := ⟨_, rfl⟩
  refine s29_8 (fun k s => ∃ (r : List Int) (y : Cell) (f : Nat), r.length + k = n ∧ s.t 0 = .v (.one (.int .i64 (n))) ∧ s.t 1 = .v (.one (x)) ∧ s.t 6 = .v (.one (.slice q 0 n)) ∧ s.t 7 = .v (.one (y)) ∧ TopI n w r ∧ s.h.o q = some (.cells q false 4 1 (gD n r)) ∧ Own s.h.o (h.nx + 4) s.h.nx y 3 1 enI r f ∧ h.nx + 4 ≤ s.h.nx ∧ ∀ i, i < h.nx → s.h.o i = h.o i) n ?_ ?_
  · skip
    refine ⟨[], .nils, 0, by simp, by simp -implicitDefEqProofs (disch := constructor; omega) [lenx, hq], by simp -implicitDefEqProofs (disch := constructor; omega) [lenx, hq], by simp -implicitDefEqProofs (disch := constructor; omega) [lenx, hq], by simp -implicitDefEqProofs (disch := constructor; omega) [lenx, hq], ⟨by simp, by simp, by simp⟩, ?_, Own.nil, (by (try dsimp only [keepOnly_eq]); omega), fun i hi => by simp -implicitDefEqProofs (disch := constructor; omega) [lenx, hq]⟩
    (try simp -implicitDefEqProofs (disch := constructor; omega) [lenx, hq, gD_nil])
  · rintro k s Q2 ⟨r, y, f, hk, t0, t1, t6, t7, T, oq, O, hn, ho⟩ hN hE hR
    have hqn : q + 1 = h.nx + 4 := by omega
    have leny := O.view.lenV (fs := fs) (out := out)
    refine s29_9 ?_
    refine s29_10 ?_
    simp -implicitDefEqProofs (disch := constructor; omega) [↓h29_11, leny, t0, t1, t6, t7]
    refine s29_12 ?_
    simp -implicitDefEqProofs (disch := constructor; omega) [leny, t0, t1, t6, t7]
    split
    · rename_i hrn
      refine s29_13 ?_
      refine s29_14 ?_
      simp -implicitDefEqProofs (disch := constructor; omega) [↓h29_15, leny, t0, t1, t6, t7]
      refine s29_16 ?_
      refine s29_17 ?_
      simp -implicitDefEqProofs (disch := constructor; omega) [↓h29_18, leny, t0, t1, t6, t7]
      refine s29_19 ?_
      refine s29_20 (fun k s => ∃ (i : Nat) (at' : Int), i + k = n ∧ s.t 0 = .v (.one (.int .i64 (n))) ∧ s.t 1 = .v (.one (x)) ∧ s.t 6 = .v (.one (.slice q 0 n)) ∧ s.t 7 = .v (.one (y)) ∧ s.t 8 = .v (.one (.int .i64 (at'))) ∧ s.t 9 = .v (.one (.int .i64 (i))) ∧ s.h.o q = some (.cells q false 4 1 (gD n r)) ∧ Own s.h.o (h.nx + 4) s.h.nx y 3 1 enI r f ∧ h.nx + 4 ≤ s.h.nx ∧ (∀ i, i < h.nx → s.h.o i = h.o i) ∧
        ((at' = -1 ∧ ∀ v : Int, 0 ≤ v → v < i → frS r v w = false) ∨ (0 ≤ at' ∧ at' < n ∧ frS r at' w = true))) n ?_ ?_
      · exact ⟨0, -1, by omega, by simp -implicitDefEqProofs (disch := constructor; omega) [leny, t0, t1, t6, t7], by simp -implicitDefEqProofs (disch := constructor; omega) [leny, t0, t1, t6, t7], by simp -implicitDefEqProofs (disch := constructor; omega) [leny, t0, t1, t6, t7], by simp -implicitDefEqProofs (disch := constructor; omega) [leny, t0, t1, t6, t7], by simp -implicitDefEqProofs (disch := constructor; omega) [leny, t0, t1, t6, t7], by simp -implicitDefEqProofs (disch := constructor; omega) [leny, t0, t1, t6, t7], oq, O.keep' (by (try dsimp only [keepOnly_eq]); omega) fun i hi => rfl, (by (try dsimp only [keepOnly_eq]); omega), ho, .inl ⟨rfl, fun v h0 h1 => by omega⟩⟩
      · clear oq O hn ho t0 t1 t6 t7 leny
        rintro z s Q3 ⟨i, at', hz, t0, t1, t6, t7, t8, t9, oq, O, hn, ho, hat⟩ hN' hE' hR'
        have exit : ((at' = -1 ∧ ∀ v : Int, 0 ≤ v → v < n → frS r v w = false) ∨ (0 ≤ at' ∧ at' < n ∧ frS r at' w = true)) → ∀ s1 : St, (s1.t 0 = .v (.one (.int .i64 (n))) ∧ s1.t 1 = .v (.one (x)) ∧ s1.t 6 = .v (.one (.slice q 0 n)) ∧ s1.t 7 = .v (.one (y))) → s1.t 8 = .v (.one (.int .i64 at')) → s1.h.o = s.h.o → s.h.nx ≤ s1.h.nx → Q3 (.exit 2) s1 := by
          clear hat t0 t1 t6 t7 t8 t9
          rintro ha s1 ⟨t0, t1, t6, t7⟩ t8 e1 e2
          rw [← e1] at oq O ho
          refine hE' 2 s1 ?_
          rcases ha with ⟨rfl, hnf⟩ | ⟨ha0, han, hfr⟩
          · skip
            (try simp -implicitDefEqProofs (disch := constructor; omega) [t0, t1, t6, t7, t8])
            refine s29_49 ?_
            refine s29_50 ?_
            simp -implicitDefEqProofs (disch := constructor; omega) [↓h29_51, t0, t1, t6, t7, t8]
            refine s29_52 ?_
            simp -implicitDefEqProofs (disch := constructor; omega) [t0, t1, t6, t7, t8]
            refine s29_53 ?_
            simp -implicitDefEqProofs (disch := constructor; omega) [↓h29_54, t0, t1, t6, t7, t8]
            refine hR _ ?_
            (try simp -implicitDefEqProofs (disch := constructor; omega) [t0, t1, t6, t7, t8])
            refine hQ _ _ _ (.inr rfl) (by simp only [resc, resv, List.mapM_cons, List.mapM_nil, a29]; simp -implicitDefEqProofs (disch := constructor; omega) [t0, t1, t6, t7, t8]; rfl) ⟨.nils, false, r, rfl, T.stuck hnf, ?_, by simp, (by (try dsimp only [keepOnly_eq]); omega), fun i hi => ho i hi⟩
            simp; omega
          · have ha' : ¬ at' < 0 := by omega
            obtain ⟨u, hu⟩ : ∃ u : Nat, at' = u := ⟨at'.toNat, by omega⟩
            have hun : u < n := by omega
            have T2 := T.step hfr ha0 han
            have gs := gD_set (r := r) hun
            rw [hu] at T2 t8
            have hu0 : ¬ (u : Int) < 0 := by omega
            (try simp -implicitDefEqProofs (disch := constructor; omega) [t0, t1, t6, t7, t8, oq, gD_len, hun, gs, hu0])
            refine s29_49 ?_
            refine s29_50 ?_
            simp -implicitDefEqProofs (disch := constructor; omega) [↓h29_51, t0, t1, t6, t7, t8, oq, gD_len, hun, gs, hu0]
            refine s29_52 ?_
            simp -implicitDefEqProofs (disch := constructor; omega) [t0, t1, t6, t7, t8, oq, gD_len, hun, gs, hu0]
            refine s29_55 ?_
            simp -implicitDefEqProofs (disch := constructor; omega) [↓h29_56, t0, t1, t6, t7, t8, oq, gD_len, hun, gs, hu0]
            refine s29_57 ?_
            simp -implicitDefEqProofs (disch := constructor; omega) [↓h29_57, ↓h29_57_1, t0, t1, t6, t7, t8, oq, gD_len, hun, gs, hu0]
            have O3 : Own (upd (killBut q q s1.h.o) q (some (.cells q false 4 1 (gD n (r ++ [(u : Int)]))))) (h.nx + 4) s.h.nx y 3 1 enI r f := by
              rcases O with ⟨h1, h2⟩ | ⟨jy, h1, h2, h3, h4, h5⟩
              · exact .inl ⟨h1, h2⟩
              · exact .inr ⟨jy, h1, (updK (by omega) (.inr (by rw [h2]; exact (by omega : f ≠ q)))).trans h2, h3, h4, h5⟩
            refine app_own (f := f) (lo := h.nx + 4) (n := s.h.nx) (x := y) (l := r) (l2 := [(u : Int)]) (enc := enI) ?_ ?_ ?_ (src_one (f := s1.h.nx + 2 + 4 + 2) (ro := false) (e := 3) (s := 1) (w := 1) ?_ rfl) enI_len enI_solid (show 0 < 1 by omega) ⟨?_, ?_⟩ ?_
            · (try dsimp only)
              omega
            · (try dsimp only)
              omega
            · refine O3.keep' (Nat.le_refl _) fun i hi => by simp -implicitDefEqProofs (disch := constructor; omega) [t0, t1, t6, t7, t8, oq, gD_len, hun, gs, hu0]
            · (try simp -implicitDefEqProofs (disch := constructor; omega) [t0, t1, t6, t7, t8, oq, gD_len, hun, gs, hu0, enI])
            · simp; omega
            · simp; omega
            rintro x' f' o' O' hf' ho'
            (try dsimp only at ho' O')
            (try simp -implicitDefEqProofs (disch := constructor; omega) [↓h29_57, ↓h29_57_1, t0, t1, t6, t7, t8, oq, gD_len, hun, gs, hu0])
            refine hN (k - 1) _ (by omega) ?_
            dsimp only [keepOnly_eq]
            refine ⟨r ++ [(u : Int)], x', f', by simp; omega, by simp -implicitDefEqProofs (disch := constructor; omega) [t0, t1, t6, t7, t8, oq, gD_len, hun, gs, hu0], by simp -implicitDefEqProofs (disch := constructor; omega) [t0, t1, t6, t7, t8, oq, gD_len, hun, gs, hu0], by simp -implicitDefEqProofs (disch := constructor; omega) [t0, t1, t6, t7, t8, oq, gD_len, hun, gs, hu0], by simp -implicitDefEqProofs (disch := constructor; omega) [t0, t1, t6, t7, t8, oq, gD_len, hun, gs, hu0], T2, ?_, O'.keep' (by (try dsimp only [keepOnly_eq]); omega) fun i hi => rfl, (by (try dsimp only [keepOnly_eq]); omega), ?_⟩
            · (try dsimp only [keepOnly_eq])
              rw [ho' q (by omega) (.inl (by omega))]
              (try simp -implicitDefEqProofs (disch := constructor; omega) [t0, t1, t6, t7, t8, oq, gD_len, hun, gs, hu0])
            · intro i hi
              (try dsimp only [keepOnly_eq])
              rw [ho' i (by omega) (.inl (by omega))]
              (try simp -implicitDefEqProofs (disch := constructor; omega) [t0, t1, t6, t7, t8, oq, gD_len, hun, gs, hu0])
              exact ho i hi
        rcases hat with ⟨rfl, hnf⟩ | ⟨ha0, han, hfr⟩
        · by_cases hi : i < n
          · skip
            refine s29_21 ?_
            refine s29_22 ?_
            simp -implicitDefEqProofs (disch := constructor; omega) [↓h29_23, ↓w29_23_1, ↓h29_23_1g, ↓h29_23_2, t0, t1, t6, t7, t8, t9, hi]
            refine s29_24 ?_
            simp -implicitDefEqProofs (disch := constructor; omega) [t0, t1, t6, t7, t8, t9, hi]
            have hlt : i < (gD n r).length := by rw [gD_len]; exact hi
            have gi : (gD n r)[i]? = some (.bool (decide ((i : Int) ∈ r))) := gD_get hi
            have w1 := wrap64 (show -9223372036854775808 ≤ (i : Int) + 1 by omega) (by omega)
            refine s29_25 ?_
            refine s29_26 ?_
            refine s29_27 ?_
            simp -implicitDefEqProofs (disch := constructor; omega) [↓h29_28, t0, t1, t6, t7, t8, t9, oq, gi, hi, gD_len, lenx, frS_nil]
            refine s29_29 ?_
            refine s29_30 ?_
            simp -implicitDefEqProofs (disch := constructor; omega) [↓h29_31, t0, t1, t6, t7, t8, t9, oq, gi, hi, gD_len, lenx, frS_nil]
            refine s29_32 ?_
            refine s29_33 (fun z s => ∃ k : Nat, k + z = w.length ∧ s.t 0 = .v (.one (.int .i64 (n))) ∧ s.t 1 = .v (.one (x)) ∧ s.t 6 = .v (.one (.slice q 0 n)) ∧ s.t 7 = .v (.one (y)) ∧ s.t 8 = .v (.one (.int .i64 (-1))) ∧ s.t 9 = .v (.one (.int .i64 (i))) ∧ s.t 10 = .v (.one (.bool (frS r i (w.take k)))) ∧ s.t 33 = .v (.one (x)) ∧ s.t 34 = .v (.one (.int .i64 (w.length))) ∧ s.t 35 = .v (.one (.int .i64 (k))) ∧ s.h.o q = some (.cells q false 4 1 (gD n r)) ∧ Own s.h.o (h.nx + 4) s.h.nx y 3 1 enI r f ∧ h.nx + 4 ≤ s.h.nx ∧ (∀ i, i < h.nx → s.h.o i = h.o i)) w.length ?_ ?_
            · exact ⟨0, by omega, by simp -implicitDefEqProofs (disch := constructor; omega) [t0, t1, t6, t7, t8, t9, oq, gi, hi, gD_len, lenx, frS_nil], by simp -implicitDefEqProofs (disch := constructor; omega) [t0, t1, t6, t7, t8, t9, oq, gi, hi, gD_len, lenx, frS_nil], by simp -implicitDefEqProofs (disch := constructor; omega) [t0, t1, t6, t7, t8, t9, oq, gi, hi, gD_len, lenx, frS_nil], by simp -implicitDefEqProofs (disch := constructor; omega) [t0, t1, t6, t7, t8, t9, oq, gi, hi, gD_len, lenx, frS_nil], by simp -implicitDefEqProofs (disch := constructor; omega) [t0, t1, t6, t7, t8, t9, oq, gi, hi, gD_len, lenx, frS_nil], by simp -implicitDefEqProofs (disch := constructor; omega) [t0, t1, t6, t7, t8, t9, oq, gi, hi, gD_len, lenx, frS_nil], by simp -implicitDefEqProofs (disch := constructor; omega) [t0, t1, t6, t7, t8, t9, oq, gi, hi, gD_len, lenx, frS_nil], by simp -implicitDefEqProofs (disch := constructor; omega) [t0, t1, t6, t7, t8, t9, oq, gi, hi, gD_len, lenx, frS_nil], by simp -implicitDefEqProofs (disch := constructor; omega) [t0, t1, t6, t7, t8, t9, oq, gi, hi, gD_len, lenx, frS_nil], by simp -implicitDefEqProofs (disch := constructor; omega) [t0, t1, t6, t7, t8, t9, oq, gi, hi, gD_len, lenx, frS_nil], oq, O.keep' (by (try dsimp only [keepOnly_eq]); omega) fun i hi => rfl, (by (try dsimp only [keepOnly_eq]); omega), ho⟩
            · clear oq O hn ho t0 t1 t6 t7 t8 t9 gi hlt
              rintro z2 s Q4 ⟨k2, hz2, t0, t1, t6, t7, t8, t9, t10, t33, t34, t35, oq, O, hn, ho⟩ hN2 hE2 hR2
              refine s29_34 ?_
              simp -implicitDefEqProofs (disch := constructor; omega) [↓h29_35, t0, t1, t6, t7, t8, t9, t10, t33, t34, t35]
              refine s29_36 ?_
              simp -implicitDefEqProofs (disch := constructor; omega) [t0, t1, t6, t7, t8, t9, t10, t33, t34, t35]
              split
              · rename_i hk2
                obtain ⟨jw, fw, row, ew, ww, csw, rfl, hjw, hcw, hlw, hgw1, hgw2, hgw3⟩ := v.get enW_len hk2
                have cw := (ho jw hjw).trans hcw
                obtain ⟨x, hxe⟩ : ∃ x, x = w[k2] := ⟨_, rfl⟩
                rw [← hxe] at hgw1 hgw2 hgw3
                have hmem : x ∈ w := by rw [hxe]; exact List.getElem_mem hk2
                obtain ⟨xf0, xfn, xt0, xtn⟩ := hin x hmem
                obtain ⟨uf, huf⟩ : ∃ n : Nat, x.f = n := ⟨x.f.toNat, by omega⟩
                have hufn : uf < n := by omega
                have gu : (gD n r)[uf]? = some (.bool (decide ((uf : Int) ∈ r))) := gD_get hufn
                have a1 := frS_step (r := r) (i := i) hk2
                rw [← hxe, huf] at a1
                have w2 := wrap64 (show -9223372036854775808 ≤ (k2 : Int) + 1 by omega) (by omega)
                cases hfr : frS r i (w.take k2) with
                | false =>
                  rw [hfr, Bool.false_and] at a1
                  refine s29_38 ?_
                  refine s29_39 ?_
                  refine s29_40 ?_
                  simp -implicitDefEqProofs (disch := constructor; omega) [↓h29_41, t0, t1, t6, t7, t8, t9, t10, t33, t34, t35, hk2, cw, hlw, hgw2, enW, oq, gu, huf, hufn, gD_len, w2, hfr, a1]
                  refine s29_42 ?_
                  simp -implicitDefEqProofs (disch := constructor; omega) [↓h29_42, ↓w29_42_1, ↓h29_42_1g, ↓w29_42_2, ↓h29_42_2g, ↓w29_42_3, ↓h29_42_3g, ↓h29_42_4, t0, t1, t6, t7, t8, t9, t10, t33, t34, t35, hk2, cw, hlw, hgw2, enW, oq, gu, huf, hufn, gD_len, w2, hfr, a1]
                  refine s29_43 ?_
                  simp -implicitDefEqProofs (disch := constructor; omega) [↓h29_43, t0, t1, t6, t7, t8, t9, t10, t33, t34, t35, hk2, cw, hlw, hgw2, enW, oq, gu, huf, hufn, gD_len, w2, hfr, a1]
                  refine hN2 (z2 - 1) _ (by omega) ?_
                  dsimp only [keepOnly_eq]
                  exact ⟨k2 + 1, by omega, by simp -implicitDefEqProofs (disch := constructor; omega) [t0, t1, t6, t7, t8, t9, t10, t33, t34, t35, hk2, cw, hlw, hgw2, enW, oq, gu, huf, hufn, gD_len, w2, hfr, a1], by simp -implicitDefEqProofs (disch := constructor; omega) [t0, t1, t6, t7, t8, t9, t10, t33, t34, t35, hk2, cw, hlw, hgw2, enW, oq, gu, huf, hufn, gD_len, w2, hfr, a1], by simp -implicitDefEqProofs (disch := constructor; omega) [t0, t1, t6, t7, t8, t9, t10, t33, t34, t35, hk2, cw, hlw, hgw2, enW, oq, gu, huf, hufn, gD_len, w2, hfr, a1], by simp -implicitDefEqProofs (disch := constructor; omega) [t0, t1, t6, t7, t8, t9, t10, t33, t34, t35, hk2, cw, hlw, hgw2, enW, oq, gu, huf, hufn, gD_len, w2, hfr, a1], by simp -implicitDefEqProofs (disch := constructor; omega) [t0, t1, t6, t7, t8, t9, t10, t33, t34, t35, hk2, cw, hlw, hgw2, enW, oq, gu, huf, hufn, gD_len, w2, hfr, a1], by simp -implicitDefEqProofs (disch := constructor; omega) [t0, t1, t6, t7, t8, t9, t10, t33, t34, t35, hk2, cw, hlw, hgw2, enW, oq, gu, huf, hufn, gD_len, w2, hfr, a1], by simp -implicitDefEqProofs (disch := constructor; omega) [t0, t1, t6, t7, t8, t9, t10, t33, t34, t35, hk2, cw, hlw, hgw2, enW, oq, gu, huf, hufn, gD_len, w2, hfr, a1], by simp -implicitDefEqProofs (disch := constructor; omega) [t0, t1, t6, t7, t8, t9, t10, t33, t34, t35, hk2, cw, hlw, hgw2, enW, oq, gu, huf, hufn, gD_len, w2, hfr, a1], by simp -implicitDefEqProofs (disch := constructor; omega) [t0, t1, t6, t7, t8, t9, t10, t33, t34, t35, hk2, cw, hlw, hgw2, enW, oq, gu, huf, hufn, gD_len, w2, hfr, a1], by simp -implicitDefEqProofs (disch := constructor; omega) [t0, t1, t6, t7, t8, t9, t10, t33, t34, t35, hk2, cw, hlw, hgw2, enW, oq, gu, huf, hufn, gD_len, w2, hfr, a1], by simp -implicitDefEqProofs (disch := constructor; omega) [t0, t1, t6, t7, t8, t9, t10, t33, t34, t35, hk2, cw, hlw, hgw2, enW, oq, gu, huf, hufn, gD_len, w2, hfr, a1, oq], O.keep' (by (try dsimp only [keepOnly_eq]); omega) fun i hi => (by simp -implicitDefEqProofs (disch := constructor; omega) [t0, t1, t6, t7, t8, t9, t10, t33, t34, t35, hk2, cw, hlw, hgw2, enW, oq, gu, huf, hufn, gD_len, w2, hfr, a1]), (by (try dsimp only [keepOnly_eq]); omega), fun i hi => by simp -implicitDefEqProofs (disch := constructor; omega) [t0, t1, t6, t7, t8, t9, t10, t33, t34, t35, hk2, cw, hlw, hgw2, enW, oq, gu, huf, hufn, gD_len, w2, hfr, a1]; exact ho i hi⟩
                | true =>
                  rw [hfr, Bool.true_and] at a1
                  by_cases hxi : x.t = i
                  · rw [decide_eq_true hxi, Bool.not_true, Bool.false_or] at a1
                    refine s29_38 ?_
                    refine s29_39 ?_
                    refine s29_40 ?_
                    simp -implicitDefEqProofs (disch := constructor; omega) [↓h29_41, t0, t1, t6, t7, t8, t9, t10, t33, t34, t35, hk2, cw, hlw, hgw2, enW, oq, gu, huf, hufn, gD_len, w2, hfr, a1, hxi]
                    refine s29_42 ?_
                    simp -implicitDefEqProofs (disch := constructor; omega) [↓h29_42, ↓w29_42_1, ↓h29_42_1g, ↓w29_42_2, ↓h29_42_2g, ↓w29_42_3, ↓h29_42_3g, ↓h29_42_4, t0, t1, t6, t7, t8, t9, t10, t33, t34, t35, hk2, cw, hlw, hgw2, enW, oq, gu, huf, hufn, gD_len, w2, hfr, a1, hxi]
                    refine s29_43 ?_
                    simp -implicitDefEqProofs (disch := constructor; omega) [↓h29_43, t0, t1, t6, t7, t8, t9, t10, t33, t34, t35, hk2, cw, hlw, hgw2, enW, oq, gu, huf, hufn, gD_len, w2, hfr, a1, hxi]
                    refine hN2 (z2 - 1) _ (by omega) ?_
                    dsimp only [keepOnly_eq]
                    exact ⟨k2 + 1, by omega, by simp -implicitDefEqProofs (disch := constructor; omega) [t0, t1, t6, t7, t8, t9, t10, t33, t34, t35, hk2, cw, hlw, hgw2, enW, oq, gu, huf, hufn, gD_len, w2, hfr, a1, hxi], by simp -implicitDefEqProofs (disch := constructor; omega) [t0, t1, t6, t7, t8, t9, t10, t33, t34, t35, hk2, cw, hlw, hgw2, enW, oq, gu, huf, hufn, gD_len, w2, hfr, a1, hxi], by simp -implicitDefEqProofs (disch := constructor; omega) [t0, t1, t6, t7, t8, t9, t10, t33, t34, t35, hk2, cw, hlw, hgw2, enW, oq, gu, huf, hufn, gD_len, w2, hfr, a1, hxi], by simp -implicitDefEqProofs (disch := constructor; omega) [t0, t1, t6, t7, t8, t9, t10, t33, t34, t35, hk2, cw, hlw, hgw2, enW, oq, gu, huf, hufn, gD_len, w2, hfr, a1, hxi], by simp -implicitDefEqProofs (disch := constructor; omega) [t0, t1, t6, t7, t8, t9, t10, t33, t34, t35, hk2, cw, hlw, hgw2, enW, oq, gu, huf, hufn, gD_len, w2, hfr, a1, hxi], by simp -implicitDefEqProofs (disch := constructor; omega) [t0, t1, t6, t7, t8, t9, t10, t33, t34, t35, hk2, cw, hlw, hgw2, enW, oq, gu, huf, hufn, gD_len, w2, hfr, a1, hxi], by simp -implicitDefEqProofs (disch := constructor; omega) [t0, t1, t6, t7, t8, t9, t10, t33, t34, t35, hk2, cw, hlw, hgw2, enW, oq, gu, huf, hufn, gD_len, w2, hfr, a1, hxi], by simp -implicitDefEqProofs (disch := constructor; omega) [t0, t1, t6, t7, t8, t9, t10, t33, t34, t35, hk2, cw, hlw, hgw2, enW, oq, gu, huf, hufn, gD_len, w2, hfr, a1, hxi], by simp -implicitDefEqProofs (disch := constructor; omega) [t0, t1, t6, t7, t8, t9, t10, t33, t34, t35, hk2, cw, hlw, hgw2, enW, oq, gu, huf, hufn, gD_len, w2, hfr, a1, hxi], by simp -implicitDefEqProofs (disch := constructor; omega) [t0, t1, t6, t7, t8, t9, t10, t33, t34, t35, hk2, cw, hlw, hgw2, enW, oq, gu, huf, hufn, gD_len, w2, hfr, a1, hxi], by simp -implicitDefEqProofs (disch := constructor; omega) [t0, t1, t6, t7, t8, t9, t10, t33, t34, t35, hk2, cw, hlw, hgw2, enW, oq, gu, huf, hufn, gD_len, w2, hfr, a1, hxi, oq], O.keep' (by (try dsimp only [keepOnly_eq]); omega) fun i hi => (by simp -implicitDefEqProofs (disch := constructor; omega) [t0, t1, t6, t7, t8, t9, t10, t33, t34, t35, hk2, cw, hlw, hgw2, enW, oq, gu, huf, hufn, gD_len, w2, hfr, a1, hxi]), (by (try dsimp only [keepOnly_eq]); omega), fun i hi => by simp -implicitDefEqProofs (disch := constructor; omega) [t0, t1, t6, t7, t8, t9, t10, t33, t34, t35, hk2, cw, hlw, hgw2, enW, oq, gu, huf, hufn, gD_len, w2, hfr, a1, hxi]; exact ho i hi⟩
                  · have hxi' := eq_false hxi
                    rw [decide_eq_false hxi, Bool.not_false, Bool.true_or] at a1
                    refine s29_38 ?_
                    refine s29_39 ?_
                    refine s29_40 ?_
                    simp -implicitDefEqProofs (disch := constructor; omega) [↓h29_41, t0, t1, t6, t7, t8, t9, t10, t33, t34, t35, hk2, cw, hlw, hgw2, enW, oq, gu, huf, hufn, gD_len, w2, hfr, a1, hxi']
                    refine s29_42 ?_
                    simp -implicitDefEqProofs (disch := constructor; omega) [↓h29_42, ↓w29_42_1, ↓h29_42_1g, ↓w29_42_2, ↓h29_42_2g, ↓w29_42_3, ↓h29_42_3g, ↓h29_42_4, t0, t1, t6, t7, t8, t9, t10, t33, t34, t35, hk2, cw, hlw, hgw2, enW, oq, gu, huf, hufn, gD_len, w2, hfr, a1, hxi']
                    refine s29_43 ?_
                    simp -implicitDefEqProofs (disch := constructor; omega) [↓h29_43, t0, t1, t6, t7, t8, t9, t10, t33, t34, t35, hk2, cw, hlw, hgw2, enW, oq, gu, huf, hufn, gD_len, w2, hfr, a1, hxi']
                    refine hN2 (z2 - 1) _ (by omega) ?_
                    dsimp only [keepOnly_eq]
                    exact ⟨k2 + 1, by omega, by simp -implicitDefEqProofs (disch := constructor; omega) [t0, t1, t6, t7, t8, t9, t10, t33, t34, t35, hk2, cw, hlw, hgw2, enW, oq, gu, huf, hufn, gD_len, w2, hfr, a1, hxi'], by simp -implicitDefEqProofs (disch := constructor; omega) [t0, t1, t6, t7, t8, t9, t10, t33, t34, t35, hk2, cw, hlw, hgw2, enW, oq, gu, huf, hufn, gD_len, w2, hfr, a1, hxi'], by simp -implicitDefEqProofs (disch := constructor; omega) [t0, t1, t6, t7, t8, t9, t10, t33, t34, t35, hk2, cw, hlw, hgw2, enW, oq, gu, huf, hufn, gD_len, w2, hfr, a1, hxi'], by simp -implicitDefEqProofs (disch := constructor; omega) [t0, t1, t6, t7, t8, t9, t10, t33, t34, t35, hk2, cw, hlw, hgw2, enW, oq, gu, huf, hufn, gD_len, w2, hfr, a1, hxi'], by simp -implicitDefEqProofs (disch := constructor; omega) [t0, t1, t6, t7, t8, t9, t10, t33, t34, t35, hk2, cw, hlw, hgw2, enW, oq, gu, huf, hufn, gD_len, w2, hfr, a1, hxi'], by simp -implicitDefEqProofs (disch := constructor; omega) [t0, t1, t6, t7, t8, t9, t10, t33, t34, t35, hk2, cw, hlw, hgw2, enW, oq, gu, huf, hufn, gD_len, w2, hfr, a1, hxi'], by simp -implicitDefEqProofs (disch := constructor; omega) [t0, t1, t6, t7, t8, t9, t10, t33, t34, t35, hk2, cw, hlw, hgw2, enW, oq, gu, huf, hufn, gD_len, w2, hfr, a1, hxi'], by simp -implicitDefEqProofs (disch := constructor; omega) [t0, t1, t6, t7, t8, t9, t10, t33, t34, t35, hk2, cw, hlw, hgw2, enW, oq, gu, huf, hufn, gD_len, w2, hfr, a1, hxi'], by simp -implicitDefEqProofs (disch := constructor; omega) [t0, t1, t6, t7, t8, t9, t10, t33, t34, t35, hk2, cw, hlw, hgw2, enW, oq, gu, huf, hufn, gD_len, w2, hfr, a1, hxi'], by simp -implicitDefEqProofs (disch := constructor; omega) [t0, t1, t6, t7, t8, t9, t10, t33, t34, t35, hk2, cw, hlw, hgw2, enW, oq, gu, huf, hufn, gD_len, w2, hfr, a1, hxi'], by simp -implicitDefEqProofs (disch := constructor; omega) [t0, t1, t6, t7, t8, t9, t10, t33, t34, t35, hk2, cw, hlw, hgw2, enW, oq, gu, huf, hufn, gD_len, w2, hfr, a1, hxi', oq], O.keep' (by (try dsimp only [keepOnly_eq]); omega) fun i hi => (by simp -implicitDefEqProofs (disch := constructor; omega) [t0, t1, t6, t7, t8, t9, t10, t33, t34, t35, hk2, cw, hlw, hgw2, enW, oq, gu, huf, hufn, gD_len, w2, hfr, a1, hxi']), (by (try dsimp only [keepOnly_eq]); omega), fun i hi => by simp -implicitDefEqProofs (disch := constructor; omega) [t0, t1, t6, t7, t8, t9, t10, t33, t34, t35, hk2, cw, hlw, hgw2, enW, oq, gu, huf, hufn, gD_len, w2, hfr, a1, hxi']; exact ho i hi⟩
              · rename_i hk2
                have hkw : k2 = w.length := by omega
                subst hkw
                rw [List.take_length] at t10
                refine hE2 4 _ ?_
                cases hfr : frS r i w with
                | false =>
                  (try simp -implicitDefEqProofs (disch := constructor; omega) [t0, t1, t6, t7, t8, t9, t10, t33, t34, t35, hfr, w1])
                  refine s29_44 ?_
                  simp -implicitDefEqProofs (disch := constructor; omega) [↓h29_45, t0, t1, t6, t7, t8, t9, t10, t33, t34, t35, hfr, w1]
                  refine s29_46 ?_
                  simp -implicitDefEqProofs (disch := constructor; omega) [t0, t1, t6, t7, t8, t9, t10, t33, t34, t35, hfr, w1]
                  refine s29_48 ?_
                  simp -implicitDefEqProofs (disch := constructor; omega) [↓h29_48, t0, t1, t6, t7, t8, t9, t10, t33, t34, t35, hfr, w1]
                  refine hN' (z - 1) _ (by omega) ?_
                  dsimp only [keepOnly_eq]
                  refine ⟨i + 1, -1, by omega, by simp -implicitDefEqProofs (disch := constructor; omega) [t0, t1, t6, t7, t8, t9, t10, t33, t34, t35, hfr, w1], by simp -implicitDefEqProofs (disch := constructor; omega) [t0, t1, t6, t7, t8, t9, t10, t33, t34, t35, hfr, w1], by simp -implicitDefEqProofs (disch := constructor; omega) [t0, t1, t6, t7, t8, t9, t10, t33, t34, t35, hfr, w1], by simp -implicitDefEqProofs (disch := constructor; omega) [t0, t1, t6, t7, t8, t9, t10, t33, t34, t35, hfr, w1], by simp -implicitDefEqProofs (disch := constructor; omega) [t0, t1, t6, t7, t8, t9, t10, t33, t34, t35, hfr, w1], by simp -implicitDefEqProofs (disch := constructor; omega) [t0, t1, t6, t7, t8, t9, t10, t33, t34, t35, hfr, w1], oq, O.keep' (by (try dsimp only [keepOnly_eq]); omega) fun i hi => rfl, (by (try dsimp only [keepOnly_eq]); omega), ho, .inl ⟨rfl, fun v h0 h1 => ?_⟩⟩
                  by_cases e : v = i
                  · rw [e]; exact hfr
                  · exact hnf v h0 (by omega)
                | true =>
                  (try simp -implicitDefEqProofs (disch := constructor; omega) [t0, t1, t6, t7, t8, t9, t10, t33, t34, t35, hfr, w1])
                  refine s29_44 ?_
                  simp -implicitDefEqProofs (disch := constructor; omega) [↓h29_45, t0, t1, t6, t7, t8, t9, t10, t33, t34, t35, hfr, w1]
                  refine s29_46 ?_
                  simp -implicitDefEqProofs (disch := constructor; omega) [t0, t1, t6, t7, t8, t9, t10, t33, t34, t35, hfr, w1]
                  refine s29_47 ?_
                  simp -implicitDefEqProofs (disch := constructor; omega) [↓h29_47, t0, t1, t6, t7, t8, t9, t10, t33, t34, t35, hfr, w1]
                  refine s29_48 ?_
                  simp -implicitDefEqProofs (disch := constructor; omega) [↓h29_48, t0, t1, t6, t7, t8, t9, t10, t33, t34, t35, hfr, w1]
                  refine hN' (z - 1) _ (by omega) ?_
                  dsimp only [keepOnly_eq]
                  exact ⟨i + 1, i, by omega, by simp -implicitDefEqProofs (disch := constructor; omega) [t0, t1, t6, t7, t8, t9, t10, t33, t34, t35, hfr, w1], by simp -implicitDefEqProofs (disch := constructor; omega) [t0, t1, t6, t7, t8, t9, t10, t33, t34, t35, hfr, w1], by simp -implicitDefEqProofs (disch := constructor; omega) [t0, t1, t6, t7, t8, t9, t10, t33, t34, t35, hfr, w1], by simp -implicitDefEqProofs (disch := constructor; omega) [t0, t1, t6, t7, t8, t9, t10, t33, t34, t35, hfr, w1], by simp -implicitDefEqProofs (disch := constructor; omega) [t0, t1, t6, t7, t8, t9, t10, t33, t34, t35, hfr, w1], by simp -implicitDefEqProofs (disch := constructor; omega) [t0, t1, t6, t7, t8, t9, t10, t33, t34, t35, hfr, w1], oq, O.keep' (by (try dsimp only [keepOnly_eq]); omega) fun i hi => rfl, (by (try dsimp only [keepOnly_eq]); omega), ho, .inr ⟨by omega, by omega, hfr⟩⟩
          · have hi' := eq_false hi
            refine s29_21 ?_
            refine s29_22 ?_
            simp -implicitDefEqProofs (disch := constructor; omega) [↓h29_23, ↓w29_23_1, ↓h29_23_1g, ↓h29_23_2, t0, t1, t6, t7, t8, t9, hi']
            refine s29_24 ?_
            simp -implicitDefEqProofs (disch := constructor; omega) [t0, t1, t6, t7, t8, t9, hi']
            refine exit (.inl ⟨rfl, fun v h0 h1 => hnf v h0 (by omega)⟩) _ ⟨by simp -implicitDefEqProofs (disch := constructor; omega) [t0, t1, t6, t7, t8, t9, hi'], by simp -implicitDefEqProofs (disch := constructor; omega) [t0, t1, t6, t7, t8, t9, hi'], by simp -implicitDefEqProofs (disch := constructor; omega) [t0, t1, t6, t7, t8, t9, hi'], by simp -implicitDefEqProofs (disch := constructor; omega) [t0, t1, t6, t7, t8, t9, hi']⟩ (by simp -implicitDefEqProofs (disch := constructor; omega) [t0, t1, t6, t7, t8, t9, hi']) rfl (by (try dsimp only [keepOnly_eq]); omega)
        · have ha' : ¬ at' < 0 := by omega
          by_cases hi : i < n
          · skip
            refine s29_21 ?_
            refine s29_22 ?_
            simp -implicitDefEqProofs (disch := constructor; omega) [↓h29_23, ↓w29_23_1, ↓h29_23_1g, ↓h29_23_2, t0, t1, t6, t7, t8, t9, hi, ha']
            refine s29_24 ?_
            simp -implicitDefEqProofs (disch := constructor; omega) [t0, t1, t6, t7, t8, t9, hi, ha']
            refine exit (.inr ⟨ha0, han, hfr⟩) _ ⟨by simp -implicitDefEqProofs (disch := constructor; omega) [t0, t1, t6, t7, t8, t9, hi, ha'], by simp -implicitDefEqProofs (disch := constructor; omega) [t0, t1, t6, t7, t8, t9, hi, ha'], by simp -implicitDefEqProofs (disch := constructor; omega) [t0, t1, t6, t7, t8, t9, hi, ha'], by simp -implicitDefEqProofs (disch := constructor; omega) [t0, t1, t6, t7, t8, t9, hi, ha']⟩ (by simp -implicitDefEqProofs (disch := constructor; omega) [t0, t1, t6, t7, t8, t9, hi, ha']) rfl (by (try dsimp only [keepOnly_eq]); omega)
          · have hi' := eq_false hi
            refine s29_21 ?_
            refine s29_22 ?_
            simp -implicitDefEqProofs (disch := constructor; omega) [↓h29_23, ↓w29_23_1, ↓h29_23_1g, ↓h29_23_2, t0, t1, t6, t7, t8, t9, hi']
            refine s29_24 ?_
            simp -implicitDefEqProofs (disch := constructor; omega) [t0, t1, t6, t7, t8, t9, hi']
            refine exit (.inr ⟨ha0, han, hfr⟩) _ ⟨by simp -implicitDefEqProofs (disch := constructor; omega) [t0, t1, t6, t7, t8, t9, hi'], by simp -implicitDefEqProofs (disch := constructor; omega) [t0, t1, t6, t7, t8, t9, hi'], by simp -implicitDefEqProofs (disch := constructor; omega) [t0, t1, t6, t7, t8, t9, hi'], by simp -implicitDefEqProofs (disch := constructor; omega) [t0, t1, t6, t7, t8, t9, hi']⟩ (by simp -implicitDefEqProofs (disch := constructor; omega) [t0, t1, t6, t7, t8, t9, hi']) rfl (by (try dsimp only [keepOnly_eq]); omega)
    · rename_i hrn
      obtain ⟨S, hrl⟩ := T.all (by omega)
      refine hE 0 _ ?_
      (try simp -implicitDefEqProofs (disch := constructor; omega) [leny, t0, t1, t6, t7])
      refine s29_58 ?_
      simp -implicitDefEqProofs (disch := constructor; omega) [↓h29_59, leny, t0, t1, t6, t7]
      exact hQ _ _ _ (.inr rfl) (by simp only [resc, resv, List.mapM_cons, List.mapM_nil, a29]; simp -implicitDefEqProofs (disch := constructor; omega) [leny, t0, t1, t6, t7]; rfl) ⟨y, true, r, rfl, S, by simp [hrl], fun _ => ⟨f, (O.keep' (n' := s.h.nx + 4 + 3) (by (try dsimp only [keepOnly_eq]); omega) fun i hi => rfl).lo (by omega)⟩, (by (try dsimp only [keepOnly_eq]); omega), ho⟩
end Go.Proofs.Ythoicdnlcnppgaa.Fn
