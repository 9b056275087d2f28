/- Contracts: leaves of the delay problem. Conditions: none. -/
import Derived.Test.YthoicdnlcnppgaaD1
set_option linter.unusedVariables false
set_option linter.unusedSimpArgs false
namespace Go.Proofs.Ythoicdnlcnppgaa.Fn
open Go Go.Am
set_option maxRecDepth 100000
set_option maxHeartbeats 1000000
structure Mom where
  t : Int
  hold : Bool
  deriving DecidableEq
structure Wt where
  f : Int
  t : Int
  mn : Int
  ms : Int
  deriving DecidableEq
structure Pr where
  m : Int
  s : Int
  deriving DecidableEq
def enM (x : Mom) : List Cell := [.int .i64 x.t, .bool x.hold]
def enW (x : Wt) : List Cell := [.int .i64 x.f, .int .i64 x.t, .int .i64 x.mn, .int .i64 x.ms]
def enPr (x : Pr) : List Cell := [.int .i64 x.m, .int .i64 x.s]
theorem enM_len (p : Mom) : (enM p).length = 2 := rfl
theorem enW_len (p : Wt) : (enW p).length = 4 := rfl
theorem enPr_len (p : Pr) : (enPr p).length = 2 := rfl
theorem enM_solid (p : Mom) : solid (enM p) = true := by simp [enM]
theorem enW_solid (p : Wt) : solid (enW p) = true := by simp [enW]
theorem enPr_solid (p : Pr) : solid (enPr p) = true := by simp [enPr]
def withinS (v : Int) : Bool := decide (0 ≤ v ∧ v ≤ 4194304)
theorem k31 (v : Int) (h : AH) : wF fs out 31 [.v (.one (.int .i64 v))] h fun r h' => r = .v (.one (.bool (withinS v))) ∧ h.le h' := by
  refine wF_fn fs31 rfl fun Q hQ => ?_
  refine s31_0 ?_
  simp -implicitDefEqProofs (disch := constructor; omega) [↓h31_1]
  refine s31_2 ?_
  simp -implicitDefEqProofs (disch := constructor; omega) [↓h31_3, ↓w31_3_1, ↓h31_3_1g, ↓h31_3_2]
  split
  all_goals
    refine hQ _ _ _ (.inr rfl) rfl ⟨?_, (by (try dsimp only [keepOnly_eq]); omega), fun _ _ => rfl⟩
    (try simp -implicitDefEqProofs (disch := constructor; omega))
    simp_all [withinS] <;> omega
def primS : List Pr → Int → Int
  | [], _ => 0
  | x :: l, i => if x.m = i then x.s else primS l i
theorem k30 (i : Int) (x : Cell) (l : List Pr) (h : AH) (v : View h.o h.nx x enPr l) (hlen : l.length < 9223372036854775807) :
    wF fs out 30 [.v (.one x), .v (.one (.int .i64 i))] h fun r h' => r = .v (.one (.int .i64 (primS l i))) ∧ h.le h' := by
  refine wF_fn fs30 rfl fun Q hQ => ?_
  have lenx := v.lenV (fs := fs) (out := out)
  refine s30_0 ?_
  simp -implicitDefEqProofs (disch := constructor; omega) [↓h30_1, lenx]
  refine s30_2 ?_
  refine s30_3 ?_
  simp -implicitDefEqProofs (disch := constructor; omega) [↓h30_4, lenx]
  refine s30_5 ?_
  refine s30_6 (fun m s => ∃ j : Nat, j + m = l.length ∧ s.t 1 = .v (.one (.int .i64 i)) ∧ s.t 7 = .v (.one x) ∧ s.t 8 = .v (.one (.int .i64 l.length)) ∧ s.t 9 = .v (.one (.int .i64 j)) ∧ h.le s.h ∧ primS l i = primS (l.drop j) i) l.length ?_ ?_
  · exact ⟨0, by omega, by simp -implicitDefEqProofs (disch := constructor; omega) [lenx], by simp -implicitDefEqProofs (disch := constructor; omega) [lenx], by simp -implicitDefEqProofs (disch := constructor; omega) [lenx], by simp -implicitDefEqProofs (disch := constructor; omega) [lenx], AH.le_mk (by omega) fun _ _ => rfl, rfl⟩
  · rintro m s Q2 ⟨j, hm, t1, t7, t8, t9, ⟨hn, ho⟩, hp⟩ hN hE hR
    refine s30_7 ?_
    simp -implicitDefEqProofs (disch := constructor; omega) [↓h30_8, t1, t7, t8, t9]
    refine s30_9 ?_
    simp -implicitDefEqProofs (disch := constructor; omega) [t1, t7, t8, t9]
    split
    · rename_i hi
      obtain ⟨a, f, ro, e, w, cs, rfl, hj, hcs, hl1, hg1, hg2, hg3⟩ := v.get enPr_len hi
      have hcs' := (ho a hj).trans hcs
      obtain ⟨p, hpe⟩ : ∃ p, p = l[j] := ⟨_, rfl⟩
      rw [← hpe] at hg2 hg1 hg3
      have w1 := wrap64 (show -9223372036854775808 ≤ (j : Int) + 1 by omega) (by omega)
      have hd : l.drop j = p :: l.drop (j + 1) := by rw [hpe]; exact List.drop_eq_getElem_cons hi
      refine s30_11 ?_
      refine s30_12 ?_
      refine s30_13 ?_
      simp -implicitDefEqProofs (disch := constructor; omega) [↓h30_14, t1, t7, t8, t9, hi, hl1, hcs', hg2, enPr, w1]
      refine s30_15 ?_
      simp -implicitDefEqProofs (disch := constructor; omega) [↓h30_16, t1, t7, t8, t9, hi, hl1, hcs', hg2, enPr, w1]
      refine s30_17 ?_
      simp -implicitDefEqProofs (disch := constructor; omega) [t1, t7, t8, t9, hi, hl1, hcs', hg2, enPr, w1]
      split
      · rename_i he
        refine s30_18 ?_
        simp -implicitDefEqProofs (disch := constructor; omega) [↓h30_19, t1, t7, t8, t9, hi, hl1, hcs', hg2, enPr, w1]
        refine hR _ ?_
        (try simp -implicitDefEqProofs (disch := constructor; omega) [t1, t7, t8, t9, hi, hl1, hcs', hg2, enPr, w1])
        refine hQ _ _ _ (.inr rfl) rfl ⟨?_, (by (try dsimp only [keepOnly_eq]); omega), fun k hk => ?_⟩
        · (try simp -implicitDefEqProofs (disch := constructor; omega) [t1, t7, t8, t9, hi, hl1, hcs', hg2, enPr, w1])
          rw [hp, hd, primS, if_pos he]
        · (try simp -implicitDefEqProofs (disch := constructor; omega) [t1, t7, t8, t9, hi, hl1, hcs', hg2, enPr, w1])
          exact ho k hk
      · rename_i he
        refine s30_20 ?_
        simp -implicitDefEqProofs (disch := constructor; omega) [↓h30_20, t1, t7, t8, t9, hi, hl1, hcs', hg2, enPr, w1]
        refine hN (m - 1) _ (by omega) ?_
        dsimp only [keepOnly_eq]
        refine ⟨j + 1, by omega, by simp -implicitDefEqProofs (disch := constructor; omega) [t1, t7, t8, t9, hi, hl1, hcs', hg2, enPr, w1], by simp -implicitDefEqProofs (disch := constructor; omega) [t1, t7, t8, t9, hi, hl1, hcs', hg2, enPr, w1], by simp -implicitDefEqProofs (disch := constructor; omega) [t1, t7, t8, t9, hi, hl1, hcs', hg2, enPr, w1], by simp -implicitDefEqProofs (disch := constructor; omega) [t1, t7, t8, t9, hi, hl1, hcs', hg2, enPr, w1], AH.le_mk (by omega) fun k hk => ?_, ?_⟩
        · (try simp -implicitDefEqProofs (disch := constructor; omega) [t1, t7, t8, t9, hi, hl1, hcs', hg2, enPr, w1])
          exact ho k hk
        · rw [hp, hd, primS, if_neg he]
    · skip
      rename_i hi
      refine hE 0 _ ?_
      (try simp -implicitDefEqProofs (disch := constructor; omega) [t1, t7, t8, t9])
      refine s30_21 ?_
      simp -implicitDefEqProofs (disch := constructor; omega) [↓h30_22, t1, t7, t8, t9]
      refine hQ _ _ _ (.inr rfl) rfl ⟨?_, (by (try dsimp only [keepOnly_eq]); omega), ho⟩
      rw [hp, List.drop_of_length_le (by omega)]
      (try simp -implicitDefEqProofs (disch := constructor; omega) [t1, t7, t8, t9, primS])
end Go.Proofs.Ythoicdnlcnppgaa.Fn
