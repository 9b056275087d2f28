/- Without wrong pulses the counter always shows exactly the axles in the resource: the pure statement of DetectorExact, for every list of numbers. Conditions: none beyond the statement's own. -/
import Derived.Test.YtellgcahkpaldaaPDetectorExactx4
import Derived.Test.YtellgcahkpaldaaWSized
namespace Go.Proofs.Ytellgcahkpaldaa.PrintWords
/-- The row's text names this lemma so. -/
abbrev sized_ints := @Go.Proofs.YtellgcahkpaldaaW.PrintWords.sized_ints
end Go.Proofs.Ytellgcahkpaldaa.PrintWords
namespace Go.Proofs.Ytellgcahkpaldaa.Pure
open Go.RowKit Go.Proofs.Ytellgcahkpaldaa.PDetectorExact Go.Proofs.YtellgcahkpaldaaW.PrintWords Go.Proofs.YtellgcahkpaldaaW.PrintLast
set_option linter.unusedVariables false
set_option linter.unusedSimpArgs false

def sndB (s a b : Int) : Bool := decide ((s = 0 ∨ s = 2) ∧ a = b ∧ 0 ≤ a ∧ a ≤ 1600)
def clnB (a b : Int) : Bool := decide (a = b ∧ 1 ≤ a ∧ a ≤ 400)
def feedN (s n : Int) (i : Bool) : Int × Int × Int :=
  if n < 0 ∨ 1600 < n then (1, 0, 0) else if s = 2 ∧ i = false ∧ n = 0 then (0, 0, 0) else (s, n, n)
def feedS (s a b : Int) (i : Bool) (pa pb : Int) : Int × Int × Int :=
  if sndB s a b = true ∧ clnB pa pb = true then feedN s (if i = true then a + pa else a - pa) i else (1, 0, 0)
def repS (s a b : Int) : Int := if sndB s a b = true ∧ s = 0 then (if 0 < a then 1 else 0) else 2
def resetS (s a b : Int) : Int × Int × Int := if sndB s a b = true then (s, a, b) else (2, 0, 0)

theorem wr_id (x : Int) (h0 : -9223372036854775808 ≤ x) (h1 : x ≤ 9223372036854775807) : wrap64 x = x := by
  unfold wrap64
  omega
theorem ite_t {α : Type} {c : Prop} [Decidable c] {a b : α} (h : c) : (if c then a else b) = a := if_pos h

theorem sound_eq (s a b : Int) : detector_sound.f s a b = some (sndB s a b) := by
  unfold detector_sound.f sndB
  repeat' split
  all_goals first | (congr 1; apply decide_eq_decide.2; omega) | (congr 1; symm; apply decide_eq_false; omega)
theorem clean_eq (r : Int) (i : Bool) (a b : Int) : detector_clean.f r i a b = some (clnB a b) := by
  unfold detector_clean.f clnB
  repeat' split
  all_goals first | (congr 1; apply decide_eq_decide.2; omega) | (congr 1; symm; apply decide_eq_false; omega)
theorem feed_j2 (k : Nat) (n s a b r : Int) (i : Bool) (pa pb : Int) : detector_Feed.j2 (k + 1) n (decide (n < 0 ∨ 1600 < n)) s a b r i pa pb = some (feedN s n i) := by
  simp only [detector_Feed.j2, feedN, decide_eq_true_eq]
  cases i <;> repeat' split
  all_goals first | rfl | (exfalso; simp_all; done) | (exfalso; simp_all; omega)
theorem feed_j1 (k : Nat) (n s a b r : Int) (i : Bool) (pa pb : Int) : detector_Feed.j1 (k + 2) n s a b r i pa pb = some (feedN s n i) := by
  have h := feed_j2 k n s a b r i pa pb
  simp only [detector_Feed.j1]
  by_cases h0 : n < 0
  · rw [if_pos h0]
    rw [decide_eq_true (Or.inl h0)] at h
    exact h
  · rw [if_neg h0]
    have e : decide (n > 1600) = decide (n < 0 ∨ 1600 < n) := decide_eq_decide.2 (by omega)
    rw [e]
    exact h
theorem feed_eq (k : Nat) (s a b r : Int) (i : Bool) (pa pb : Int) : detector_Feed.f (k + 3) s a b r i pa pb = some (feedS s a b i pa pb) := by
  unfold detector_Feed.f feedS
  rw [sound_eq, clean_eq]
  simp only [Option.bind_some]
  by_cases hs : sndB s a b = true
  · rw [if_pos hs]
    by_cases hc : clnB pa pb = true
    · rw [if_pos ⟨hs, hc⟩]
      have hs' := of_decide_eq_true hs
      have hc' := of_decide_eq_true hc
      simp only [detector_Feed.j0, hc, Bool.not_true, Bool.false_eq_true, if_false]
      by_cases hi : i = true
      · rw [if_pos hi, if_pos hi, wr_id _ (by omega) (by omega)]
        exact feed_j1 k _ s a b r i pa pb
      · rw [if_neg hi, if_neg hi, wr_id _ (by omega) (by omega)]
        exact feed_j1 k _ s a b r i pa pb
    · rw [if_neg (fun h => hc h.2)]
      have hc' : clnB pa pb = false := by simpa using hc
      simp only [detector_Feed.j0, hc', Bool.not_false, if_true]
  · rw [if_neg hs, if_neg (fun h => hs h.1)]
    simp only [detector_Feed.j0, if_true]
theorem feed_ev (s a b r : Int) (i : Bool) (pa pb : Int) : Ev (fun k => detector_Feed.f k s a b r i pa pb) (feedS s a b i pa pb) :=
  ⟨3, fun k hk => by obtain ⟨m, rfl⟩ : ∃ m, k = m + 3 := ⟨k - 3, by omega⟩; exact feed_eq m s a b r i pa pb⟩

theorem rep_eq (k : Nat) (s a b : Int) : detector_Report.f (k + 1) s a b = some (repS s a b) := by
  unfold detector_Report.f repS
  rw [sound_eq]
  simp only [Option.bind_some, detector_Report.j0]
  by_cases hs : sndB s a b = true
  · by_cases h0 : s = 0
    · subst h0
      simp only [hs, if_true]
      by_cases ha : 0 < a
      · simp [ha]
      · simp [ha]
    · simp [hs, h0]
  · simp [hs]
theorem rep_ev (s a b : Int) : Ev (fun k => detector_Report.f k s a b) (repS s a b) :=
  ⟨1, fun k hk => by obtain ⟨m, rfl⟩ : ∃ m, k = m + 1 := ⟨k - 1, by omega⟩; exact rep_eq m s a b⟩
theorem awake_eq (k : Nat) (hk : 3 ≤ k) : railplanlaw31_awake.f k = some true := by
  obtain ⟨m, rfl⟩ : ∃ m, k = m + 3 := ⟨k - 3, by omega⟩
  unfold railplanlaw31_awake.f
  rw [feed_eq]
  simp only [Option.bind_some]
  rw [feed_eq]
  simp only [Option.bind_some]
  rw [rep_eq (m + 2), rep_eq (m + 2)]
  decide

def pickS (v n : Int) : Int := (IntKind.u64.wrap v) % n
theorem u64_lit (v : Int) : IntKind.u64.wrap v = v % 18446744073709551616 := rfl
theorem pick_eq (v n : Int) (h1 : 1 ≤ n) (h2 : n ≤ 1000000000000) : railplankeep_Pick.f v n = some (pickS v n) := by
  unfold railplankeep_Pick.f pickS
  have e : IntKind.u64.wrap n = n := by rw [u64_lit]; omega
  have h0 : 0 ≤ IntKind.u64.wrap v := by rw [u64_lit]; omega
  rw [e, if_neg (by omega), Int.tmod_eq_emod_of_nonneg h0]
  have := Int.emod_nonneg (IntKind.u64.wrap v) (show n ≠ 0 by omega)
  have := Int.emod_lt_of_pos (IntKind.u64.wrap v) (show 0 < n by omega)
  rw [wr_id _ (by omega) (by omega)]
theorem pickS_range (v n : Int) (h1 : 1 ≤ n) : 0 ≤ pickS v n ∧ pickS v n < n :=
  ⟨Int.emod_nonneg _ (by omega), Int.emod_lt_of_pos _ (by omega)⟩
/-- Some number below n, and the source moves on or has ended. -/
theorem next_some (l : List Int) (hl : l.length * 8 ≤ 140737488351232) (i n : Int) (hi : 0 ≤ i) (h1 : 1 ≤ n) (h2 : n ≤ 1000000000000) :
    ∃ v j, railplankeep_Source_Next.f l i n = some (v, j) ∧ 0 ≤ v ∧ v < n ∧ i ≤ j ∧ (i < l.length → i < j ∧ j ≤ l.length) := by
  unfold railplankeep_Source_Next.f
  by_cases h : i ≥ (l.length : Int)
  · rw [if_pos h]
    exact ⟨0, i, rfl, by omega, by omega, by omega, fun h' => by omega⟩
  · rw [if_neg h]
    have e1 : wrap64 (i + 1) = i + 1 := wr_id _ (by omega) (by omega)
    have e2 : wrap64 (i + 1 - 1) = i := by rw [show i + 1 - 1 = i by omega]; exact wr_id _ (by omega) (by omega)
    rw [e1, e2, if_pos hi, if_pos (by omega), pick_eq _ _ h1 h2]
    have := pickS_range (rd l i) n h1
    exact ⟨_, _, rfl, this.1, this.2, by omega, fun _ => by omega⟩

theorem round (l : List Int) (hl : l.length * 8 ≤ 140737488351232) (d : Nat) : ∀ (k : Nat) (i x : Int), 0 ≤ i → (l.length : Int) - i ≤ d → 0 ≤ x → x ≤ 1600 → 3 * d + 12 ≤ k →
    railplanlaw31_DetectorExact.l0 k x l i 0 x x = some true := by
  induction d with
  | zero =>
    intro k i x hi hd h0 h1 hk
    obtain ⟨k, rfl⟩ : ∃ m, k = m + 11 := ⟨k - 11, by omega⟩
    have hn : ¬ i < (l.length : Int) := by omega
    simp only [railplanlaw31_DetectorExact.l0, railplankeep_Source_Left.f, Option.bind_some, decide_eq_true_eq, if_neg hn]
    rw [awake_eq _ (by omega)]
    rfl
  | succ d ih =>
    intro k i x hi hd h0 h1 hk
    obtain ⟨k, rfl⟩ : ∃ m, k = m + 6 := ⟨k - 6, by omega⟩
    by_cases hn : i < (l.length : Int)
    · obtain ⟨v, j, hv, v0, v1, _, hj⟩ := next_some l hl i 9 hi (by omega) (by omega)
      have hj := hj hn
      have ew : wrap64 (1 + v) = 1 + v := wr_id _ (by omega) (by omega)
      have tail : ∀ (j2 : Int) (b : Bool), j ≤ j2 → (b = true → x + (1 + v) ≤ 1600) → (b = false → 1 + v ≤ x) →
          railplanlaw31_DetectorExact.j1 (k + 5) x (1 + v) b l j2 0 x x = some true := by
        intro j2 b hj2 hb1 hb0
        have hs : sndB 0 x x = true := decide_eq_true (by omega)
        have hc : clnB (1 + v) (1 + v) = true := decide_eq_true (by omega)
        have key : ∀ y : Int, 0 ≤ y → y ≤ 1600 → feedS 0 x x b (1 + v) (1 + v) = (0, y, y) →
            railplanlaw31_DetectorExact.j2 (k + 4) y (1 + v) b l j2 0 x x = some true := by
          intro y y0 y1 hf
          simp only [railplanlaw31_DetectorExact.j2]
          rw [feed_eq k, hf]
          simp only [Option.bind_some]
          rw [rep_eq (k + 2)]
          simp only [Option.bind_some]
          have hy : sndB 0 y y = true := decide_eq_true (by omega)
          have hih := ih (k + 3) j2 y (by omega) (by omega) y0 y1 (by omega)
          by_cases hz : y = 0
          · subst hz
            simpa [repS, hy] using hih
          · have : 0 < y := by omega
            simpa [repS, hy, hz, this] using hih
        simp only [railplanlaw31_DetectorExact.j1]
        cases b with
        | true =>
          have hb1 := hb1 rfl
          rw [if_pos rfl, wr_id _ (by omega) (by omega)]
          refine key _ (by omega) (by omega) ?_
          unfold feedS feedN
          rw [if_pos ⟨hs, hc⟩]
          simp only [if_true]
          rw [if_neg (by omega), if_neg (by omega)]
        | false =>
          have hb0 := hb0 rfl
          rw [if_neg (by simp), wr_id _ (by omega) (by omega)]
          refine key _ (by omega) (by omega) ?_
          unfold feedS feedN
          rw [if_pos ⟨hs, hc⟩]
          simp only [Bool.false_eq_true, if_false]
          rw [if_neg (by omega), if_neg (by omega)]
      simp only [railplanlaw31_DetectorExact.l0, railplankeep_Source_Left.f, Option.bind_some, decide_eq_true_eq, if_pos hn]
      rw [hv]
      simp only [Option.bind_some, ew]
      by_cases hx : x < 1 + v
      · rw [if_pos hx]
        exact tail j true (by omega) (by omega) (by simp)
      · rw [if_neg hx]
        obtain ⟨v2, j2, hv2, _, _, hj2, _⟩ := next_some l hl j 2 (by omega) (by omega) (by omega)
        rw [hv2]
        simp only [Option.bind_some]
        by_cases hz : v2 = 0
        · rw [if_pos hz]
          refine tail j2 _ hj2 (fun h => ?_) (fun h => by omega)
          have := of_decide_eq_true h
          omega
        · rw [if_neg hz]
          exact tail j2 _ hj2 (by simp) (fun h => by omega)
    · simp only [railplanlaw31_DetectorExact.l0, railplankeep_Source_Left.f, Option.bind_some, decide_eq_true_eq, if_neg hn]
      rw [awake_eq _ (by omega)]
      rfl
theorem DetectorExact : railplanlaw31_DetectorExact.Pure := by
  intro l _ hl _
  refine ⟨3 * l.length + 12, ?_⟩
  unfold railplanlaw31_DetectorExact.f railplankeep_From.f
  simp only [Option.bind_some]
  exact round l hl l.length _ 0 0 (by omega) (by omega) (by omega) (by omega) (by omega)

end Go.Proofs.Ytellgcahkpaldaa.Pure
