/- Contracts: Same of ints, Same of truths. Conditions: none. -/
import Derived.Test.YthoicdnlcnppgaaD2
set_option linter.unusedVariables false
set_option linter.unusedSimpArgs false
namespace Go.Proofs.Ythoicdnlcnppgaa.Fn
open Go Go.Am
set_option maxRecDepth 100000
set_option maxHeartbeats 1000000
theorem k19 (x y : Cell) (l m : List Int) (h : AH) (v : View h.o h.nx x enI l) (u : View h.o h.nx y enI m) (hlen : l.length < 9223372036854775807) :
    wF fs out 19 [.v (.one x), .v (.one y)] h fun r h' => r = .v (.one (.bool (decide (l = m)))) ∧ h.le h' := by
  refine wF_fn fs19 rfl fun Q hQ => ?_
  have lenx := v.lenV (fs := fs) (out := out)
  have leny := u.lenV (fs := fs) (out := out)
  refine s19_0 ?_
  (try simp -implicitDefEqProofs (disch := constructor; omega) [↓h19_1, lenx, leny])
  refine s19_2 ?_
  refine s19_3 ?_
  by_cases hl : l.length = m.length
  · (try simp -implicitDefEqProofs (disch := constructor; omega) [↓h19_4, lenx, leny, hl])
    refine s19_5 ?_
    (try simp -implicitDefEqProofs (disch := constructor; omega) [lenx, leny])
    refine s19_8 ?_
    refine s19_9 ?_
    simp -implicitDefEqProofs (disch := constructor; omega) [↓h19_10, lenx, leny, hl]
    refine s19_11 ?_
    refine s19_12 (fun k s => ∃ i : Nat, i + k = l.length ∧ s.t 0 = .v (.one x) ∧ s.t 1 = .v (.one y) ∧ s.t 12 = .v (.one (.int .i64 m.length)) ∧ s.t 13 = .v (.one (.int .i64 i)) ∧ h.le s.h ∧ l.take i = m.take i) l.length ?_ ?_
    · exact ⟨0, by omega, by simp -implicitDefEqProofs (disch := constructor; omega) [lenx, leny], by simp -implicitDefEqProofs (disch := constructor; omega) [lenx, leny], by simp -implicitDefEqProofs (disch := constructor; omega) [lenx, leny], by simp -implicitDefEqProofs (disch := constructor; omega) [lenx, leny], AH.le_mk (by omega) fun _ _ => rfl, by simp⟩
    · rintro k s Q2 ⟨i, hm, t0, t1, t12, t13, ⟨hn, ho⟩, hp⟩ hN hE hR
      refine s19_13 ?_
      simp -implicitDefEqProofs (disch := constructor; omega) [↓h19_14, t0, t1, t12, t13]
      refine s19_15 ?_
      simp -implicitDefEqProofs (disch := constructor; omega) [t0, t1, t12, t13]
      split
      · rename_i hi
        obtain ⟨j, f, ro, e, w, cs, rfl, hj, hcs, hl1, hg1⟩ := v.get1 (g := (Cell.int .i64 ·)) (fun _ => rfl) (i := i) (by omega)
        obtain ⟨j', f', ro', e', w', cs', rfl, hj', hcs', hl1', hg1'⟩ := u.get1 (g := (Cell.int .i64 ·)) (fun _ => rfl) (i := i) hi
        have c1 := (ho j hj).trans hcs
        have c2 := (ho j' hj').trans hcs'
        have hi2 : i < l.length := by omega
        have w1 := wrap64 (show -9223372036854775808 ≤ (i : Int) + 1 by omega) (by omega)
        refine s19_17 ?_
        refine s19_18 ?_
        refine s19_19 ?_
        simp -implicitDefEqProofs (disch := constructor; omega) [↓h19_20, t0, t1, t12, t13, hi, hi2, c1, c2, hl1, hl1', hg1, hg1', w1]
        refine s19_21 ?_
        simp -implicitDefEqProofs (disch := constructor; omega) [↓h19_22, t0, t1, t12, t13, hi, hi2, c1, c2, hl1, hl1', hg1, hg1', w1]
        refine s19_23 ?_
        simp -implicitDefEqProofs (disch := constructor; omega) [t0, t1, t12, t13, hi, hi2, c1, c2, hl1, hl1', hg1, hg1', w1]
        by_cases heq : l[i] = m[i]
        · skip
          (try simp -implicitDefEqProofs (disch := constructor; omega) [t0, t1, t12, t13, hi, hi2, c1, c2, hl1, hl1', hg1, hg1', w1, heq])
          refine s19_26 ?_
          simp -implicitDefEqProofs (disch := constructor; omega) [↓h19_26, t0, t1, t12, t13, hi, hi2, c1, c2, hl1, hl1', hg1, hg1', w1, heq]
          refine hN (k - 1) _ (by omega) ?_
          dsimp only [keepOnly_eq]
          refine ⟨i + 1, by omega, by simp -implicitDefEqProofs (disch := constructor; omega) [t0, t1, t12, t13, hi, hi2, c1, c2, hl1, hl1', hg1, hg1', w1, heq], by simp -implicitDefEqProofs (disch := constructor; omega) [t0, t1, t12, t13, hi, hi2, c1, c2, hl1, hl1', hg1, hg1', w1, heq], by simp -implicitDefEqProofs (disch := constructor; omega) [t0, t1, t12, t13, hi, hi2, c1, c2, hl1, hl1', hg1, hg1', w1, heq], by simp -implicitDefEqProofs (disch := constructor; omega) [t0, t1, t12, t13, hi, hi2, c1, c2, hl1, hl1', hg1, hg1', w1, heq], AH.le_mk (by omega) ho, ?_⟩
          rw [List.take_succ_eq_append_getElem hi2, List.take_succ_eq_append_getElem hi, hp, heq]
        · skip
          (try simp -implicitDefEqProofs (disch := constructor; omega) [t0, t1, t12, t13, hi, hi2, c1, c2, hl1, hl1', hg1, hg1', w1, heq])
          refine s19_24 ?_
          simp -implicitDefEqProofs (disch := constructor; omega) [↓h19_25, t0, t1, t12, t13, hi, hi2, c1, c2, hl1, hl1', hg1, hg1', w1, heq]
          refine hR _ ?_
          (try simp -implicitDefEqProofs (disch := constructor; omega) [t0, t1, t12, t13, hi, hi2, c1, c2, hl1, hl1', hg1, hg1', w1, heq])
          refine hQ _ _ _ (.inr rfl) rfl ⟨?_, (by (try dsimp only [keepOnly_eq]); omega), ho⟩
          have : l ≠ m := fun e => heq (by subst e; rfl)
          (try simp -implicitDefEqProofs (disch := constructor; omega) [t0, t1, t12, t13, hi, hi2, c1, c2, hl1, hl1', hg1, hg1', w1, heq])
          simp [this]
      · skip
        rename_i hi
        refine hE 0 _ ?_
        (try simp -implicitDefEqProofs (disch := constructor; omega) [t0, t1, t12, t13])
        refine s19_27 ?_
        simp -implicitDefEqProofs (disch := constructor; omega) [↓h19_28, t0, t1, t12, t13]
        rw [List.take_of_length_le (by omega), List.take_of_length_le (by omega)] at hp
        refine hQ _ _ _ (.inr rfl) rfl ⟨?_, (by (try dsimp only [keepOnly_eq]); omega), ho⟩
        (try simp -implicitDefEqProofs (disch := constructor; omega) [t0, t1, t12, t13])
        simp [hp]
  · skip
    have hl' : ¬ (l.length : Int) = m.length := by omega
    (try simp -implicitDefEqProofs (disch := constructor; omega) [↓h19_4, lenx, leny, hl'])
    refine s19_5 ?_
    (try simp -implicitDefEqProofs (disch := constructor; omega) [lenx, leny, hl'])
    refine s19_6 ?_
    simp -implicitDefEqProofs (disch := constructor; omega) [↓h19_7, lenx, leny]
    refine hQ _ _ _ (.inr rfl) rfl ⟨?_, (by (try dsimp only [keepOnly_eq]); omega), fun _ _ => rfl⟩
    have : l ≠ m := fun e => hl (by rw [e])
    (try simp -implicitDefEqProofs (disch := constructor; omega) [lenx, leny])
    simp [this]
theorem k24 (x y : Cell) (l m : List Bool) (h : AH) (v : View h.o h.nx x enB l) (u : View h.o h.nx y enB m) (hlen : l.length < 9223372036854775807) :
    wF fs out 24 [.v (.one x), .v (.one y)] h fun r h' => r = .v (.one (.bool (decide (l = m)))) ∧ h.le h' := by
  refine wF_fn fs24 rfl fun Q hQ => ?_
  have lenx := v.lenV (fs := fs) (out := out)
  have leny := u.lenV (fs := fs) (out := out)
  refine s24_0 ?_
  (try simp -implicitDefEqProofs (disch := constructor; omega) [↓h24_1, lenx, leny])
  refine s24_2 ?_
  refine s24_3 ?_
  by_cases hl : l.length = m.length
  · (try simp -implicitDefEqProofs (disch := constructor; omega) [↓h24_4, lenx, leny, hl])
    refine s24_5 ?_
    (try simp -implicitDefEqProofs (disch := constructor; omega) [lenx, leny])
    refine s24_8 ?_
    refine s24_9 ?_
    simp -implicitDefEqProofs (disch := constructor; omega) [↓h24_10, lenx, leny, hl]
    refine s24_11 ?_
    refine s24_12 (fun k s => ∃ i : Nat, i + k = l.length ∧ s.t 0 = .v (.one x) ∧ s.t 1 = .v (.one y) ∧ s.t 12 = .v (.one (.int .i64 m.length)) ∧ s.t 13 = .v (.one (.int .i64 i)) ∧ h.le s.h ∧ l.take i = m.take i) l.length ?_ ?_
    · exact ⟨0, by omega, by simp -implicitDefEqProofs (disch := constructor; omega) [lenx, leny], by simp -implicitDefEqProofs (disch := constructor; omega) [lenx, leny], by simp -implicitDefEqProofs (disch := constructor; omega) [lenx, leny], by simp -implicitDefEqProofs (disch := constructor; omega) [lenx, leny], AH.le_mk (by omega) fun _ _ => rfl, by simp⟩
    · rintro k s Q2 ⟨i, hm, t0, t1, t12, t13, ⟨hn, ho⟩, hp⟩ hN hE hR
      refine s24_13 ?_
      simp -implicitDefEqProofs (disch := constructor; omega) [↓h24_14, t0, t1, t12, t13]
      refine s24_15 ?_
      simp -implicitDefEqProofs (disch := constructor; omega) [t0, t1, t12, t13]
      split
      · rename_i hi
        obtain ⟨j, f, ro, e, w, cs, rfl, hj, hcs, hl1, hg1⟩ := v.get1 (g := Cell.bool) (fun _ => rfl) (i := i) (by omega)
        obtain ⟨j', f', ro', e', w', cs', rfl, hj', hcs', hl1', hg1'⟩ := u.get1 (g := Cell.bool) (fun _ => rfl) (i := i) hi
        have c1 := (ho j hj).trans hcs
        have c2 := (ho j' hj').trans hcs'
        have hi2 : i < l.length := by omega
        have w1 := wrap64 (show -9223372036854775808 ≤ (i : Int) + 1 by omega) (by omega)
        refine s24_17 ?_
        refine s24_18 ?_
        refine s24_19 ?_
        simp -implicitDefEqProofs (disch := constructor; omega) [↓h24_20, t0, t1, t12, t13, hi, hi2, c1, c2, hl1, hl1', hg1, hg1', w1]
        refine s24_21 ?_
        simp -implicitDefEqProofs (disch := constructor; omega) [↓h24_22, t0, t1, t12, t13, hi, hi2, c1, c2, hl1, hl1', hg1, hg1', w1]
        refine s24_23 ?_
        simp -implicitDefEqProofs (disch := constructor; omega) [t0, t1, t12, t13, hi, hi2, c1, c2, hl1, hl1', hg1, hg1', w1]
        by_cases heq : l[i] = m[i]
        · skip
          (try simp -implicitDefEqProofs (disch := constructor; omega) [t0, t1, t12, t13, hi, hi2, c1, c2, hl1, hl1', hg1, hg1', w1, heq])
          refine s24_26 ?_
          simp -implicitDefEqProofs (disch := constructor; omega) [↓h24_26, t0, t1, t12, t13, hi, hi2, c1, c2, hl1, hl1', hg1, hg1', w1, heq]
          refine hN (k - 1) _ (by omega) ?_
          dsimp only [keepOnly_eq]
          refine ⟨i + 1, by omega, by simp -implicitDefEqProofs (disch := constructor; omega) [t0, t1, t12, t13, hi, hi2, c1, c2, hl1, hl1', hg1, hg1', w1, heq], by simp -implicitDefEqProofs (disch := constructor; omega) [t0, t1, t12, t13, hi, hi2, c1, c2, hl1, hl1', hg1, hg1', w1, heq], by simp -implicitDefEqProofs (disch := constructor; omega) [t0, t1, t12, t13, hi, hi2, c1, c2, hl1, hl1', hg1, hg1', w1, heq], by simp -implicitDefEqProofs (disch := constructor; omega) [t0, t1, t12, t13, hi, hi2, c1, c2, hl1, hl1', hg1, hg1', w1, heq], AH.le_mk (by omega) ho, ?_⟩
          rw [List.take_succ_eq_append_getElem hi2, List.take_succ_eq_append_getElem hi, hp, heq]
        · skip
          (try simp -implicitDefEqProofs (disch := constructor; omega) [t0, t1, t12, t13, hi, hi2, c1, c2, hl1, hl1', hg1, hg1', w1, heq])
          refine s24_24 ?_
          simp -implicitDefEqProofs (disch := constructor; omega) [↓h24_25, t0, t1, t12, t13, hi, hi2, c1, c2, hl1, hl1', hg1, hg1', w1, heq]
          refine hR _ ?_
          (try simp -implicitDefEqProofs (disch := constructor; omega) [t0, t1, t12, t13, hi, hi2, c1, c2, hl1, hl1', hg1, hg1', w1, heq])
          refine hQ _ _ _ (.inr rfl) rfl ⟨?_, (by (try dsimp only [keepOnly_eq]); omega), ho⟩
          have : l ≠ m := fun e => heq (by subst e; rfl)
          (try simp -implicitDefEqProofs (disch := constructor; omega) [t0, t1, t12, t13, hi, hi2, c1, c2, hl1, hl1', hg1, hg1', w1, heq])
          simp [this]
      · skip
        rename_i hi
        refine hE 0 _ ?_
        (try simp -implicitDefEqProofs (disch := constructor; omega) [t0, t1, t12, t13])
        refine s24_27 ?_
        simp -implicitDefEqProofs (disch := constructor; omega) [↓h24_28, t0, t1, t12, t13]
        rw [List.take_of_length_le (by omega), List.take_of_length_le (by omega)] at hp
        refine hQ _ _ _ (.inr rfl) rfl ⟨?_, (by (try dsimp only [keepOnly_eq]); omega), ho⟩
        (try simp -implicitDefEqProofs (disch := constructor; omega) [t0, t1, t12, t13])
        simp [hp]
  · skip
    have hl' : ¬ (l.length : Int) = m.length := by omega
    (try simp -implicitDefEqProofs (disch := constructor; omega) [↓h24_4, lenx, leny, hl'])
    refine s24_5 ?_
    (try simp -implicitDefEqProofs (disch := constructor; omega) [lenx, leny, hl'])
    refine s24_6 ?_
    simp -implicitDefEqProofs (disch := constructor; omega) [↓h24_7, lenx, leny]
    refine hQ _ _ _ (.inr rfl) rfl ⟨?_, (by (try dsimp only [keepOnly_eq]); omega), fun _ _ => rfl⟩
    have : l ≠ m := fun e => hl (by rw [e])
    (try simp -implicitDefEqProofs (disch := constructor; omega) [lenx, leny])
    simp [this]
end Go.Proofs.Ythoicdnlcnppgaa.Fn
