/- Feed, Report and Reset agree with the reference at small counters: the pure statement of DetectorSmall, for every input. Conditions: none beyond the statement's own. -/
import Derived.Test.YtellgcahkpaldaaPDetectorSmallx6
import Derived.Test.YtellgcahkpaldaaWSized
namespace Go.Proofs.Ytellgcahkpaldaa.PrintWords
/-- The row's text names this lemma so. -/
abbrev sized_ints := @Go.Proofs.YtellgcahkpaldaaW.PrintWords.sized_ints
end Go.Proofs.Ytellgcahkpaldaa.PrintWords
namespace Go.Proofs.Ytellgcahkpaldaa.Pure
open Go.RowKit Go.Proofs.Ytellgcahkpaldaa.PDetectorSmall Go.Proofs.YtellgcahkpaldaaW.PrintWords Go.Proofs.YtellgcahkpaldaaW.PrintLast
set_option linter.unusedVariables false
set_option linter.unusedSimpArgs false

def sndB (s a b : Int) : Bool := decide ((s = 0 ∨ s = 2) ∧ a = b ∧ 0 ≤ a ∧ a ≤ 1600)
def clnB (a b : Int) : Bool := decide (a = b ∧ 1 ≤ a ∧ a ≤ 400)
def feedN (s n : Int) (i : Bool) : Int × Int × Int :=
  if n < 0 ∨ 1600 < n then (1, 0, 0) else if s = 2 ∧ i = false ∧ n = 0 then (0, 0, 0) else (s, n, n)
def feedS (s a b : Int) (i : Bool) (pa pb : Int) : Int × Int × Int :=
  if sndB s a b = true ∧ clnB pa pb = true then feedN s (if i = true then a + pa else a - pa) i else (1, 0, 0)
def repS (s a b : Int) : Int := if sndB s a b = true ∧ s = 0 then (if 0 < a then 1 else 0) else 2
def resetS (s a b : Int) : Int × Int × Int := if sndB s a b = true then (s, a, b) else (2, 0, 0)

theorem wr_id (x : Int) (h0 : -9223372036854775808 ≤ x) (h1 : x ≤ 9223372036854775807) : wrap64 x = x := by
  unfold wrap64
  omega
theorem ite_t {α : Type} {c : Prop} [Decidable c] {a b : α} (h : c) : (if c then a else b) = a := if_pos h

theorem sound_eq (s a b : Int) : detector_sound.f s a b = some (sndB s a b) := by
  unfold detector_sound.f sndB
  repeat' split
  all_goals first | (congr 1; apply decide_eq_decide.2; omega) | (congr 1; symm; apply decide_eq_false; omega)
theorem clean_eq (r : Int) (i : Bool) (a b : Int) : detector_clean.f r i a b = some (clnB a b) := by
  unfold detector_clean.f clnB
  repeat' split
  all_goals first | (congr 1; apply decide_eq_decide.2; omega) | (congr 1; symm; apply decide_eq_false; omega)
theorem feed_j2 (k : Nat) (n s a b r : Int) (i : Bool) (pa pb : Int) : detector_Feed.j2 (k + 1) n (decide (n < 0 ∨ 1600 < n)) s a b r i pa pb = some (feedN s n i) := by
  simp only [detector_Feed.j2, feedN, decide_eq_true_eq]
  cases i <;> repeat' split
  all_goals first | rfl | (exfalso; simp_all; done) | (exfalso; simp_all; omega)
theorem feed_j1 (k : Nat) (n s a b r : Int) (i : Bool) (pa pb : Int) : detector_Feed.j1 (k + 2) n s a b r i pa pb = some (feedN s n i) := by
  have h := feed_j2 k n s a b r i pa pb
  simp only [detector_Feed.j1]
  by_cases h0 : n < 0
  · rw [if_pos h0]
    rw [decide_eq_true (Or.inl h0)] at h
    exact h
  · rw [if_neg h0]
    have e : decide (n > 1600) = decide (n < 0 ∨ 1600 < n) := decide_eq_decide.2 (by omega)
    rw [e]
    exact h
theorem feed_eq (k : Nat) (s a b r : Int) (i : Bool) (pa pb : Int) : detector_Feed.f (k + 3) s a b r i pa pb = some (feedS s a b i pa pb) := by
  unfold detector_Feed.f feedS
  rw [sound_eq, clean_eq]
  simp only [Option.bind_some]
  by_cases hs : sndB s a b = true
  · rw [if_pos hs]
    by_cases hc : clnB pa pb = true
    · rw [if_pos ⟨hs, hc⟩]
      have hs' := of_decide_eq_true hs
      have hc' := of_decide_eq_true hc
      simp only [detector_Feed.j0, hc, Bool.not_true, Bool.false_eq_true, if_false]
      by_cases hi : i = true
      · rw [if_pos hi, if_pos hi, wr_id _ (by omega) (by omega)]
        exact feed_j1 k _ s a b r i pa pb
      · rw [if_neg hi, if_neg hi, wr_id _ (by omega) (by omega)]
        exact feed_j1 k _ s a b r i pa pb
    · rw [if_neg (fun h => hc h.2)]
      have hc' : clnB pa pb = false := by simpa using hc
      simp only [detector_Feed.j0, hc', Bool.not_false, if_true]
  · rw [if_neg hs, if_neg (fun h => hs h.1)]
    simp only [detector_Feed.j0, if_true]
theorem feed_ev (s a b r : Int) (i : Bool) (pa pb : Int) : Ev (fun k => detector_Feed.f k s a b r i pa pb) (feedS s a b i pa pb) :=
  ⟨3, fun k hk => by obtain ⟨m, rfl⟩ : ∃ m, k = m + 3 := ⟨k - 3, by omega⟩; exact feed_eq m s a b r i pa pb⟩

theorem rep_eq (k : Nat) (s a b : Int) : detector_Report.f (k + 1) s a b = some (repS s a b) := by
  unfold detector_Report.f repS
  rw [sound_eq]
  simp only [Option.bind_some, detector_Report.j0]
  by_cases hs : sndB s a b = true
  · by_cases h0 : s = 0
    · subst h0
      simp only [hs, if_true]
      by_cases ha : 0 < a
      · simp [ha]
      · simp [ha]
    · simp [hs, h0]
  · simp [hs]
theorem rep_ev (s a b : Int) : Ev (fun k => detector_Report.f k s a b) (repS s a b) :=
  ⟨1, fun k hk => by obtain ⟨m, rfl⟩ : ∃ m, k = m + 1 := ⟨k - 1, by omega⟩; exact rep_eq m s a b⟩
theorem awake_eq (k : Nat) (hk : 3 ≤ k) : railplanlaw31_awake.f k = some true := by
  obtain ⟨m, rfl⟩ : ∃ m, k = m + 3 := ⟨k - 3, by omega⟩
  unfold railplanlaw31_awake.f
  rw [feed_eq]
  simp only [Option.bind_some]
  rw [feed_eq]
  simp only [Option.bind_some]
  rw [rep_eq (m + 2), rep_eq (m + 2)]
  decide

theorem reset_eq (s a b : Int) : detector_Reset.f s a b = some (resetS s a b) := by
  unfold detector_Reset.f resetS
  rw [sound_eq]
  simp only [Option.bind_some]
  by_cases hs : sndB s a b = true
  · rw [if_pos hs, if_pos hs]
  · rw [if_neg hs, if_neg hs]

def pickS (v n : Int) : Int := (IntKind.u64.wrap v) % n
theorem u64_lit (v : Int) : IntKind.u64.wrap v = v % 18446744073709551616 := rfl
theorem pick_eq (v n : Int) (h1 : 1 ≤ n) (h2 : n ≤ 1000000000000) : railplankeep_Pick.f v n = some (pickS v n) := by
  unfold railplankeep_Pick.f pickS
  have e : IntKind.u64.wrap n = n := by rw [u64_lit]; omega
  have h0 : 0 ≤ IntKind.u64.wrap v := by rw [u64_lit]; omega
  rw [e, if_neg (by omega), Int.tmod_eq_emod_of_nonneg h0]
  have := Int.emod_nonneg (IntKind.u64.wrap v) (show n ≠ 0 by omega)
  have := Int.emod_lt_of_pos (IntKind.u64.wrap v) (show 0 < n by omega)
  rw [wr_id _ (by omega) (by omega)]
theorem pickS_range (v n : Int) (h1 : 1 ≤ n) : 0 ≤ pickS v n ∧ pickS v n < n :=
  ⟨Int.emod_nonneg _ (by omega), Int.emod_lt_of_pos _ (by omega)⟩

theorem rsound_eq (s a b : Int) : railplanref30_sound.f s a b = some (sndB s a b) := by
  unfold railplanref30_sound.f sndB
  repeat' split
  all_goals first | (congr 1; apply decide_eq_decide.2; omega) | (congr 1; symm; apply decide_eq_false; omega)
theorem rfeed_j2 (k : Nat) (n s a b r : Int) (i : Bool) (pa pb : Int) : railplanref30_Feed.j2 (k + 1) n (decide (n < 0 ∨ 1600 < n)) s a b r i pa pb = some (feedN s n i) := by
  simp only [railplanref30_Feed.j2, feedN, decide_eq_true_eq]
  cases i <;> repeat' split
  all_goals first | rfl | (exfalso; simp_all; done) | (exfalso; simp_all; omega)
theorem rfeed_j1 (k : Nat) (n s a b r : Int) (i : Bool) (pa pb : Int) : railplanref30_Feed.j1 (k + 2) n s a b r i pa pb = some (feedN s n i) := by
  have h := rfeed_j2 k n s a b r i pa pb
  simp only [railplanref30_Feed.j1]
  by_cases h0 : n < 0
  · rw [if_pos h0]
    rw [decide_eq_true (Or.inl h0)] at h
    exact h
  · rw [if_neg h0]
    have e : decide (n > 1600) = decide (n < 0 ∨ 1600 < n) := decide_eq_decide.2 (by omega)
    rw [e]
    exact h
theorem rfeed_j0 (k : Nat) (s a b r : Int) (i : Bool) (pa pb : Int) (hs : sndB s a b = true) :
    railplanref30_Feed.j0 (k + 3) (!clnB pa pb) s a b r i pa pb = some (feedS s a b i pa pb) := by
  unfold feedS
  by_cases hc : clnB pa pb = true
  · rw [if_pos ⟨hs, hc⟩]
    have hs' := of_decide_eq_true hs
    have hc' := of_decide_eq_true hc
    simp only [railplanref30_Feed.j0, hc, Bool.not_true, Bool.false_eq_true, if_false]
    by_cases hi : i = true
    · rw [if_pos hi, if_pos hi, wr_id _ (by omega) (by omega)]
      exact rfeed_j1 k _ s a b r i pa pb
    · rw [if_neg hi, if_neg hi, wr_id _ (by omega) (by omega)]
      exact rfeed_j1 k _ s a b r i pa pb
  · rw [if_neg (fun h => hc h.2)]
    have hc' : clnB pa pb = false := by simpa using hc
    simp only [railplanref30_Feed.j0, hc', Bool.not_false, if_true]
theorem rfeed_eq (k : Nat) (s a b r : Int) (i : Bool) (pa pb : Int) : railplanref30_Feed.f (k + 3) s a b r i pa pb = some (feedS s a b i pa pb) := by
  unfold railplanref30_Feed.f
  rw [rsound_eq]
  simp only [Option.bind_some]
  by_cases hs : sndB s a b = true
  · rw [if_pos hs]
    have h0 := rfeed_j0 k s a b r i pa pb hs
    by_cases e : pa = pb
    · rw [if_pos e]
      by_cases h1 : pa < 1
      · rw [if_pos h1]
        have : clnB pa pb = false := decide_eq_false (by omega)
        rw [this] at h0
        exact h0
      · rw [if_neg h1]
        have : (!clnB pa pb) = decide (pa > 400) := by
          unfold clnB
          rw [← decide_not]
          exact decide_eq_decide.2 (by omega)
        rw [this] at h0
        exact h0
    · rw [if_neg e]
      have : clnB pa pb = false := decide_eq_false (by omega)
      rw [this] at h0
      exact h0
  · rw [if_neg hs]
    unfold feedS
    rw [if_neg (fun h => hs h.1)]
    simp only [railplanref30_Feed.j0, if_true]
theorem rfeed_ev (s a b r : Int) (i : Bool) (pa pb : Int) : Ev (fun k => railplanref30_Feed.f k s a b r i pa pb) (feedS s a b i pa pb) :=
  ⟨3, fun k hk => by obtain ⟨m, rfl⟩ : ∃ m, k = m + 3 := ⟨k - 3, by omega⟩; exact rfeed_eq m s a b r i pa pb⟩

theorem rrep_eq (k : Nat) (s a b : Int) : railplanref30_Report.f (k + 1) s a b = some (repS s a b) := by
  unfold railplanref30_Report.f repS
  simp only [railplanref30_Report.j0]
  by_cases h0 : s = 0
  · subst h0
    rw [if_pos rfl, rsound_eq]
    simp only [Option.bind_some]
    by_cases hs : sndB 0 a b = true
    · have h := of_decide_eq_true hs
      by_cases ha : 0 < a
      · have : a ≠ 0 := by omega
        simp [hs, ha, this]
      · have ha0 : a = 0 := by omega
        subst ha0
        simp [hs]
    · simp [hs]
  · simp [h0]
theorem rreset_eq (s a b : Int) : railplanref30_Reset.f s a b = some (resetS s a b) := by
  unfold railplanref30_Reset.f resetS
  rw [rsound_eq]
  simp only [Option.bind_some]
  by_cases hs : sndB s a b = true
  · rw [if_pos hs, if_pos hs]
  · rw [if_neg hs, if_neg hs]

theorem small_j1 (k : Nat) (s a b r pa pb : Int) (i : Bool) : railplanlaw31_DetectorSmall.j1 (k + 4) s a b r i pa pb = some true := by
  simp only [railplanlaw31_DetectorSmall.j1]
  rw [awake_eq _ (by omega)]
  simp only [Option.bind_some, if_true]
  rw [feed_eq k, rfeed_eq k]
  simp only [Option.bind_some, beq_self_eq_true, Bool.and_self, if_true]
  rw [rep_eq (k + 2), rrep_eq (k + 2), reset_eq, rreset_eq]
  simp only [Option.bind_some, beq_self_eq_true, Bool.and_self, if_true]
theorem DetectorSmall : railplanlaw31_DetectorSmall.Pure := by
  intro a0 a1 a2 a3 a4 a5 _ _ _ _ _
  obtain ⟨K, hK⟩ : ∃ K, K = 0 := ⟨_, rfl⟩
  refine ⟨K + 5, ?_⟩
  have j0 : ∀ x y z : Int, railplanlaw31_DetectorSmall.j0 (K + 5) a3 a4 a5 x y z = some true := by
    intro x y z
    simp only [railplanlaw31_DetectorSmall.j0]
    rw [pick_eq _ 5 (by omega) (by omega), pick_eq _ 5 (by omega) (by omega), pick_eq _ 3 (by omega) (by omega)]
    simp only [Option.bind_some]
    by_cases h : pickS (wrap64 (a3.tdiv 5)) 3 > 0
    · rw [if_pos h]; exact small_j1 K _ _ _ _ _ _ _
    · rw [if_neg h]; exact small_j1 K _ _ _ _ _ _ _
  unfold railplanlaw31_DetectorSmall.f
  rw [pick_eq _ 4 (by omega) (by omega), pick_eq _ 5 (by omega) (by omega), pick_eq _ 5 (by omega) (by omega), pick_eq _ 3 (by omega) (by omega)]
  simp only [Option.bind_some]
  by_cases h : pickS (wrap64 (a1.tdiv 5)) 3 > 0
  · rw [if_pos h]; exact j0 _ _ _
  · rw [if_neg h]; exact j0 _ _ _

end Go.Proofs.Ytellgcahkpaldaa.Pure
