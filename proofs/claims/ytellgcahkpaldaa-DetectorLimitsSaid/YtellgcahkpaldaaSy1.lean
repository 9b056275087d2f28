/- Contracts. Conditions: none. -/
import Derived.Test.YtellgcahkpaldaaFn
import Derived.Test.YtellgcahkpaldaaAmWp
set_option linter.unusedVariables false
set_option linter.unusedSimpArgs false
namespace Go.Proofs.Ytellgcahkpaldaa.Fn
open Go Go.Am
def soundS (s a b : Int) : Bool := (s == 0 || s == 2) && a == b && decide (a ≥ 0) && decide (a ≤ 1600)
def cnt (s a b : Int) : T := .v (.agg [.int .i64 s, .int .i64 a, .int .i64 b])
def pls (r : Int) (i : Bool) (a b : Int) : T := .v (.agg [.int .i64 r, .bool i, .int .i64 a, .int .i64 b])
def cleanS (a b : Int) : Bool := a == b && decide (a ≥ 1) && decide (a ≤ 400)
set_option maxRecDepth 100000 
theorem c26 (out : Rec) (k : Nat) (s a b : Int) (h : AH) : wpf (acall fs out (k + 1) 26 [cnt s a b] h) fun r h' => r = .v (.one (.bool (soundS s a b))) ∧ h.le h' := by
  refine wpf_call fs26 rfl ?_
  unfold a26
  refine wpc_seq (wpc_region rfl ?_)
  simp -implicitDefEqProofs [cnt]
  refine wpc_seq (wpc_region rfl ?_)
  simp -implicitDefEqProofs
  repeat' (refine wps_guard rfl ?_ ?_ <;> intro hg <;> simp -implicitDefEqProofs)
  all_goals refine ⟨by simp_all [soundS] <;> omega, AH.le_mk (by first | omega | (simp; omega)) fun j hj => ?_⟩
  all_goals
    have : j ≠ h.nx := by omega
    simp -implicitDefEqProofs [this]
theorem c27 (out : Rec) (k : Nat) (r : Int) (i : Bool) (a b : Int) (h : AH) : wpf (acall fs out (k + 1) 27 [pls r i a b] h) fun r h' => r = .v (.one (.bool (cleanS a b))) ∧ h.le h' := by
  refine wpf_call fs27 rfl ?_
  unfold a27
  refine wpc_seq (wpc_region rfl ?_)
  simp -implicitDefEqProofs [pls]
  refine wpc_seq (wpc_region rfl ?_)
  simp -implicitDefEqProofs
  repeat' (refine wps_guard rfl ?_ ?_ <;> intro hg <;> simp -implicitDefEqProofs)
  all_goals refine ⟨by simp_all [cleanS] <;> omega, AH.le_mk (by first | omega | (simp; omega)) fun j hj => ?_⟩
  all_goals
    have : j ≠ h.nx := by omega
    simp -implicitDefEqProofs [this]
def pickS (v n : Int) : Int := (IntKind.u64.wrap v) % n
theorem u64_lit (v : Int) : IntKind.u64.wrap v = v % 18446744073709551616 := rfl
theorem i64_id (v : Int) (h1 : -9223372036854775808 ≤ v) (h2 : v < 9223372036854775808) : IntKind.i64.wrap v = v := by rw [IntKind.wrap_i64]; omega
theorem pickS_range (v n : Int) (h1 : 1 ≤ n) : 0 ≤ pickS v n ∧ pickS v n < n :=
  ⟨Int.emod_nonneg _ (by omega), Int.emod_lt_of_pos _ (by omega)⟩
theorem c17 (out : Rec) (k : Nat) (v n : Int) (h1 : 1 ≤ n) (h2 : n ≤ 1000000000000) (h : AH) : wpf (acall fs out (k + 1) 17 [.v (.one (.int .i64 v)), .v (.one (.int .i64 n))] h) fun r h' => r = .v (.one (.int .i64 (pickS v n))) ∧ h.le h' := by
  have e : IntKind.u64.wrap n = n := by rw [u64_lit]; omega
  have h0 : 0 ≤ IntKind.u64.wrap v := by rw [u64_lit]; omega
  have hp := pickS_range v n h1
  refine wpf_call fs17 rfl ?_
  unfold a17
  refine wpc_seq (wpc_region rfl ?_)
  simp -implicitDefEqProofs
  refine wpc_seq (wpc_region rfl ?_)
  simp -implicitDefEqProofs [e, show ¬ n = 0 by omega, Int.tmod_eq_emod_of_nonneg h0]
  refine ⟨?_, AH.le_mk (by omega) fun j hj => rfl⟩
  exact i64_id _ (by unfold pickS at hp; omega) (by unfold pickS at hp; omega)
def feedS (s a b : Int) (i : Bool) (x y : Int) : T :=
  if soundS s a b = true ∧ cleanS x y = true then
    let n := if i = true then a + x else a - x
    if n < 0 ∨ n > 1600 then cnt 1 0 0 else if s = 2 ∧ i = false ∧ n = 0 then cnt 0 0 0 else cnt s n n
  else cnt 1 0 0
set_option maxHeartbeats 1000000
theorem c14 (out : Rec) (k : Nat) (s a b r : Int) (i : Bool) (x y : Int) (h : AH) : wpf (acall fs out (k + 1 + 1) 14 [cnt s a b, pls r i x y] h) fun r h' => r = feedS s a b i x y ∧ h.le h' := by
  refine wpf_call fs14 rfl ?_
  unfold a14
  refine wpc_seq (wpc_region rfl ?_)
  simp -implicitDefEqProofs [cnt, pls]
  refine wpc_seq (wpc_seq (wpc_region rfl ?_))
  simp -implicitDefEqProofs
  refine wpf_mono (c26 out k s a b _) ?_
  rintro _ h1 ⟨rfl, hle⟩
  have n1 : h.nx + 11 ≤ h1.nx := hle.1
  have p0 : h1.o h.nx = some (.cells h.nx false 26 0 [.int .i64 s, .int .i64 a, .int .i64 b]) := by rw [hle.2 _ (by simp; omega)]; simp
  have p1 : h1.o (h.nx + 1) = some (.cells (h.nx + 1) false 31 0 [.int .i64 r, .bool i, .int .i64 x, .int .i64 y]) := by rw [hle.2 _ (by simp)]; simp
  have p2 : h1.o (h.nx + 2) = some (.cells (h.nx + 2) false 26 0 [.int .i64 0, .int .i64 0, .int .i64 0]) := by rw [hle.2 _ (by simp)]; simp
  have L1 : h.le h1 := AH.le_trans (AH.le_mk (by omega) fun j hj => by simp [show j ≠ h.nx by omega, show j ≠ h.nx + 1 by omega, show j ≠ h.nx + 2 by omega]) hle
  clear hle
  -- the end: the result's cell is written and read
  have fin : ∀ (h2 : AH) (v : List Cell) (m : Nat), h.le h2 → h2.nx ≤ m → h.le { o := upd (killBut (h.nx + 2) (h.nx + 2) h2.o) (h.nx + 2) (some (AObj.cells (h.nx + 2) false 26 0 v)), nx := m } := by
    intro h2 v m L hm
    refine AH.le_mk (by have := L.1; omega) fun j hj => ?_
    rw [upd_ne _ _ (by omega), killBut_old (by omega)]
    exact L.2 j hj
  simp -implicitDefEqProofs
  cases hs : soundS s a b with
  | false =>
    simp -implicitDefEqProofs
    refine wpc_cond rfl ?_
    simp -implicitDefEqProofs
    refine wpc_seq (wpc_region rfl ?_)
    simp -implicitDefEqProofs [p2]
    exact ⟨by simp [feedS, hs, cnt], fin h1 _ _ L1 (by omega)⟩
  | true => 
    simp -implicitDefEqProofs [p1]
    refine wpf_mono (c27 out k r i x y _) ?_
    rintro _ h2 ⟨rfl, hle⟩
    have n2 := hle.1
    rw [← hle.2 _ (by omega)] at p0 p1 p2
    have L2 := AH.le_trans L1 hle
    clear hle
    simp -implicitDefEqProofs
    cases hc : cleanS x y with
    | false => 
      refine wpc_cond rfl ?_
      simp -implicitDefEqProofs
      refine wpc_seq (wpc_region rfl ?_)
      simp -implicitDefEqProofs [p2]
      exact ⟨by simp [feedS, hs, hc, cnt], fin h2 _ _ L2 (by omega)⟩
    | true => 
      refine wpc_cond rfl ?_
      simp -implicitDefEqProofs
      refine wpc_seq (wpc_region rfl ?_)
      simp -implicitDefEqProofs [p0, p1]
      refine wpc_seq (wpc_seq (wpc_region rfl ?_))
      simp -implicitDefEqProofs [p0, p1]
      refine wpc_cond rfl ?_
      have hs1 : (s = 0 ∨ s = 2) ∧ a = b ∧ 0 ≤ a ∧ a ≤ 1600 := by simpa [soundS, and_assoc] using hs
      have hc1 : x = y ∧ 1 ≤ x ∧ x ≤ 400 := by simpa [cleanS, and_assoc] using hc
      have w1 : IntKind.i64.wrap (a + x) = a + x := i64_id _ (by omega) (by omega)
      have w2 : IntKind.i64.wrap (a - x) = a - x := i64_id _ (by omega) (by omega)
      cases i with
      | true =>
        simp -implicitDefEqProofs [w1]
        refine wpc_seq (wpc_block ?_)
        refine wpc_seq (wpc_region rfl ?_)
        simp -implicitDefEqProofs
        refine wps_guard rfl ?_ ?_ <;> intro hg <;> simp -implicitDefEqProofs
        · refine wpc_cond rfl ?_
          simp -implicitDefEqProofs
          refine wpc_seq (wpc_region rfl ?_)
          simp -implicitDefEqProofs [p2]
          refine ⟨?_, fin h2 _ _ L2 (by omega)⟩
          have : a + x < 0 := by simpa using hg
          simp [feedS, hs, hc, cnt, this]
        · have hg0 : ¬ a + x < 0 := by simpa using hg
          refine wpc_cond rfl ?_
          by_cases hm : 1600 < a + x
          · simp -implicitDefEqProofs [hm]
            refine wpc_seq (wpc_region rfl ?_)
            simp -implicitDefEqProofs [p2]
            refine ⟨?_, fin h2 _ _ L2 (by omega)⟩
            simp [feedS, hs, hc, cnt, hm]
          · simp -implicitDefEqProofs [hm]
            refine wpc_seq (wpc_region rfl ?_)
            simp -implicitDefEqProofs [p0, p1]
            repeat' (refine wps_guard rfl ?_ ?_ <;> intro hq <;> simp -implicitDefEqProofs [p0, p1])
            all_goals (try refine wpc_cond rfl ?_)
            all_goals simp -implicitDefEqProofs
            all_goals
              have hq' := hq
              simp at hq'
              refine wpc_seq (wpc_region rfl ?_)
              simp -implicitDefEqProofs [p0, p1, p2]
              refine ⟨?_, fin h2 _ _ L2 (by omega)⟩
              simp [feedS, hs, hc, cnt, hg0, hm]
      | false =>
        simp -implicitDefEqProofs
        refine wpc_region rfl ?_
        simp -implicitDefEqProofs [p0, p1, w2]
        refine wpc_seq (wpc_block ?_)
        refine wpc_seq (wpc_region rfl ?_)
        simp -implicitDefEqProofs
        refine wps_guard rfl ?_ ?_ <;> intro hg <;> simp -implicitDefEqProofs
        · refine wpc_cond rfl ?_
          simp -implicitDefEqProofs
          refine wpc_seq (wpc_region rfl ?_)
          simp -implicitDefEqProofs [p2]
          refine ⟨?_, fin h2 _ _ L2 (by omega)⟩
          have : a - x < 0 := by simpa using hg
          simp [feedS, hs, hc, cnt, this]
        · have hg0 : ¬ a - x < 0 := by simpa using hg
          refine wpc_cond rfl ?_
          by_cases hm : 1600 < a - x
          · simp -implicitDefEqProofs [hm]
            refine wpc_seq (wpc_region rfl ?_)
            simp -implicitDefEqProofs [p2]
            refine ⟨?_, fin h2 _ _ L2 (by omega)⟩
            simp [feedS, hs, hc, cnt, hm]
          · simp -implicitDefEqProofs [hm]
            refine wpc_seq (wpc_region rfl ?_)
            simp -implicitDefEqProofs [p0, p1]
            repeat' (refine wps_guard rfl ?_ ?_ <;> intro hq <;> simp -implicitDefEqProofs [p0, p1])
            all_goals (try refine wpc_cond rfl ?_)
            all_goals simp -implicitDefEqProofs
            · have hq' := hq
              simp at hq'
              subst hq'
              by_cases hz : a - x = 0
              · simp -implicitDefEqProofs [hz]
                refine wpc_seq (wpc_region rfl ?_)
                simp -implicitDefEqProofs [p0, p1, p2]
                refine ⟨?_, fin h2 _ _ L2 (by omega)⟩
                simp [feedS, hs, hc, cnt, hg0, hm, hz]
              · simp -implicitDefEqProofs [hz]
                refine wpc_seq (wpc_region rfl ?_)
                simp -implicitDefEqProofs [p0, p1, p2]
                refine ⟨?_, fin h2 _ _ L2 (by omega)⟩
                simp [feedS, hs, hc, cnt, hg0, hm, hz]
            · have hq' := hq
              simp at hq'
              refine wpc_seq (wpc_region rfl ?_)
              simp -implicitDefEqProofs [p0, p1, p2]
              refine ⟨?_, fin h2 _ _ L2 (by omega)⟩
              simp [feedS, hs, hc, cnt, hg0, hm, hq']

end Go.Proofs.Ytellgcahkpaldaa.Fn
