/- DetectorLimits, by the rules. Conditions: none. -/
import Derived.Test.YtellgcahkpaldaaSy1
set_option linter.unusedVariables false
set_option linter.unusedSimpArgs false
namespace Go.Proofs.Ytellgcahkpaldaa.Fn
open Go Go.Am
set_option maxRecDepth 100000
set_option maxHeartbeats 1000000
theorem c4 (k : Nat) (a b : Int) (h : AH) : wpf (acall fs out (k + 1 + 1 + 1) 4 [.v (.one (.int .i64 a)), .v (.one (.int .i64 b))] h) fun r h' => r = .v (.one (.bool true)) := by
  refine wpf_call fs4 rfl ?_
  unfold a4
  refine wpc_seq (wpc_region rfl ?_)
  simp -implicitDefEqProofs
  refine wpc_seq (wpc_region rfl ?_)
  simp -implicitDefEqProofs
  refine wpf_mono (c17 out (k + 1) a 1601 (by omega) (by omega) _) ?_
  rintro _ h1 ⟨rfl, l1⟩
  refine wpf_mono (c17 out (k + 1) b 400 (by omega) (by omega) _) ?_
  rintro _ h2 ⟨rfl, l2⟩
  have ha := pickS_range a 1601 (by omega)
  have hb := pickS_range b 400 (by omega)
  generalize pickS a 1601 = x at ha
  generalize pickS b 400 = y' at hb
  clear l1 l2
  simp -implicitDefEqProofs
  rw [i64_id (1 + y') (by omega) (by omega)]
  obtain ⟨y, hy⟩ : ∃ y, y = 1 + y' := ⟨_, rfl⟩
  rw [← hy]
  obtain ⟨u, v, f1, d1⟩ : ∃ u v, feedS 0 x x true y y = cnt u v v ∧ ((1600 < x + y ∧ u = 1 ∧ v = 0) ∨ (x + y ≤ 1600 ∧ u = 0 ∧ v = x + y)) := by
    have e1 : soundS 0 x x = true := by simp [soundS]; omega
    have e2 : cleanS y y = true := by simp [cleanS]; omega
    by_cases hm : 1600 < x + y
    · exact ⟨1, 0, by simp [feedS, e1, e2, hm], .inl ⟨hm, rfl, rfl⟩⟩
    · exact ⟨0, x + y, by simp [feedS, e1, e2, hm, show ¬ x + y < 0 by omega], .inr ⟨by omega, rfl, rfl⟩⟩
  obtain ⟨p, q, f2, d2⟩ : ∃ p q, feedS 0 x x false y y = cnt p q q ∧ ((x < y ∧ p = 1 ∧ q = 0) ∨ (y ≤ x ∧ p = 0 ∧ q = x - y)) := by
    have e1 : soundS 0 x x = true := by simp [soundS]; omega
    have e2 : cleanS y y = true := by simp [cleanS]; omega
    by_cases hm : x - y < 0
    · exact ⟨1, 0, by simp [feedS, e1, e2, hm], .inl ⟨by omega, rfl, rfl⟩⟩
    · exact ⟨0, x - y, by simp [feedS, e1, e2, hm, show ¬ 1600 < x - y by omega], .inr ⟨by omega, rfl, rfl⟩⟩
  refine wpc_seq (wpc_region rfl ?_)
  simp -implicitDefEqProofs
  refine abs_heap (fun g => g.o (h2.nx + 3) = some (.cells (h2.nx + 3) false 26 0 [.int .i64 0, .int .i64 x, .int .i64 x]) ∧ h2.nx + 5 ≤ g.nx) ⟨by simp -implicitDefEqProofs, by simp -implicitDefEqProofs⟩ ?_
  rintro g ⟨c7, hn⟩
  refine wpc_seq (wpc_region rfl ?_)
  simp -implicitDefEqProofs [c7]
  refine wpf_mono (c14 out k 0 x x 0 true y y _) ?_
  rintro _ h3 ⟨rfl, l3⟩
  have n3 : g.nx + 7 ≤ h3.nx := l3.1
  rw [← l3.2 _ (by simp -implicitDefEqProofs; omega)] at c7
  clear l3
  rw [f1]
  simp -implicitDefEqProofs [cnt]
  refine abs_heap (fun e => e.o (h2.nx + 3) = some (.cells (h2.nx + 3) false 26 0 [.int .i64 0, .int .i64 x, .int .i64 x]) ∧ e.o (g.nx + 5) = some (.cells (g.nx + 5) false 26 0 [.int .i64 u, .int .i64 v, .int .i64 v]) ∧ g.nx + 7 ≤ e.nx)
    ⟨by simp -implicitDefEqProofs [show ¬ h2.nx = g.nx + 2 by omega, killBut_old (show h2.nx + 3 < g.nx + 5 by omega), c7], by simp -implicitDefEqProofs, by simp -implicitDefEqProofs; omega⟩ ?_
  clear c7
  rintro g2 ⟨c7, c8, hn2⟩
  refine wpc_seq (wpc_region rfl ?_)
  simp -implicitDefEqProofs [c7]
  refine wpf_mono (c14 out k 0 x x 0 false y y _) ?_
  rintro _ h4 ⟨rfl, l4⟩
  have n4 : g2.nx + 7 ≤ h4.nx := l4.1
  rw [← l4.2 _ (by simp -implicitDefEqProofs; omega)] at c7 c8
  clear l4
  rw [f2]
  simp -implicitDefEqProofs [cnt]
  refine abs_heap (fun e => e.o (g.nx + 5) = some (.cells (g.nx + 5) false 26 0 [.int .i64 u, .int .i64 v, .int .i64 v]) ∧ e.o (g2.nx + 5) = some (.cells (g2.nx + 5) false 26 0 [.int .i64 p, .int .i64 q, .int .i64 q]) ∧ g2.nx + 7 ≤ e.nx)
    ⟨by simp -implicitDefEqProofs [show ¬ g.nx = g2.nx by omega, killBut_old (show g.nx + 5 < g2.nx + 5 by omega), c8], by simp -implicitDefEqProofs, by simp -implicitDefEqProofs; omega⟩ ?_
  clear c7 c8
  rintro g3 ⟨c8, c9, hn3⟩
  refine wpc_seq (wpc_region rfl ?_)
  simp -implicitDefEqProofs
  refine abs_heap (fun e => e.o (g.nx + 5) = some (.cells (g.nx + 5) false 26 0 [.int .i64 u, .int .i64 v, .int .i64 v]) ∧ e.o (g2.nx + 5) = some (.cells (g2.nx + 5) false 26 0 [.int .i64 p, .int .i64 q, .int .i64 q]) ∧ e.o (g3.nx + 1) = some (.cells (g3.nx + 1) false 26 0 [.int .i64 1, .int .i64 0, .int .i64 0]))
    ⟨by simp -implicitDefEqProofs [show ¬ g.nx + 5 = g3.nx + 1 by omega, killBut_old (show g.nx + 5 < g3.nx + 1 by omega), c8], by simp -implicitDefEqProofs [show ¬ g2.nx + 5 = g3.nx + 1 by omega, killBut_old (show g2.nx + 5 < g3.nx + 1 by omega), c9], by simp -implicitDefEqProofs⟩ ?_
  clear c8 c9
  rintro g4 ⟨c8, c9, c10⟩
  refine wpc_seq (wpc_seq (wpc_region rfl ?_))
  have w1 : IntKind.i64.wrap (x + y) = x + y := i64_id _ (by omega) (by omega)
  have w2 : IntKind.i64.wrap (x - y) = x - y := i64_id _ (by omega) (by omega)
  have acall_out : ∀ h, acall fs out (k + 1 + 1) 16 [] h = out 16 [] h := fun h => by simp [acall, show fs 16 = none from rfl]
  rcases d1 with ⟨d, rfl, rfl⟩ | ⟨d, rfl, rfl⟩
  · simp -implicitDefEqProofs [w1, d, c8, c9, c10, show ¬ x + y ≤ 1600 by omega]
    refine wpc_cond rfl ?_
    simp -implicitDefEqProofs
    refine wpc_seq (wpc_region rfl ?_)
    simp -implicitDefEqProofs
    rw [acall_out]
    refine wpf_mono (out16 _) ?_
    rintro _ h5 ⟨rfl, rfl⟩
    rcases d2 with ⟨e, rfl, rfl⟩ | ⟨e, rfl, rfl⟩
    · simp -implicitDefEqProofs [w2, e, c8, c9, c10, show ¬ y ≤ x by omega]
    · simp -implicitDefEqProofs [w2, e, c8, c9, c10, show ¬ x < y by omega]
  · simp -implicitDefEqProofs [w1, d, c8, c9, c10, show ¬ 1600 < x + y by omega]
    refine wpc_cond rfl ?_
    simp -implicitDefEqProofs
    refine wpc_seq (wpc_region rfl ?_)
    simp -implicitDefEqProofs
    rw [acall_out]
    refine wpf_mono (out16 _) ?_
    rintro _ h5 ⟨rfl, rfl⟩
    rcases d2 with ⟨e, rfl, rfl⟩ | ⟨e, rfl, rfl⟩
    · simp -implicitDefEqProofs [w2, e, c8, c9, c10, show ¬ y ≤ x by omega]
    · simp -implicitDefEqProofs [w2, e, c8, c9, c10, show ¬ x < y by omega]
end Go.Proofs.Ytellgcahkpaldaa.Fn
