/- The second half of the example of chapter 31: the pure statement of DetectorExample. Conditions: none beyond the statement's own. -/
import Derived.Test.YtellgcahkpaldaaPDetectorExamplex3
import Derived.Test.YtellgcahkpaldaaWSized
namespace Go.Proofs.Ytellgcahkpaldaa.PrintWords
/-- The row's text names this lemma so. -/
abbrev sized_ints := @Go.Proofs.YtellgcahkpaldaaW.PrintWords.sized_ints
end Go.Proofs.Ytellgcahkpaldaa.PrintWords
namespace Go.Proofs.Ytellgcahkpaldaa.Pure
open Go.RowKit Go.Proofs.Ytellgcahkpaldaa.PDetectorExample Go.Proofs.YtellgcahkpaldaaW.PrintWords Go.Proofs.YtellgcahkpaldaaW.PrintLast
set_option linter.unusedVariables false
set_option linter.unusedSimpArgs false

def sndB (s a b : Int) : Bool := decide ((s = 0 ∨ s = 2) ∧ a = b ∧ 0 ≤ a ∧ a ≤ 1600)
def clnB (a b : Int) : Bool := decide (a = b ∧ 1 ≤ a ∧ a ≤ 400)
def feedN (s n : Int) (i : Bool) : Int × Int × Int :=
  if n < 0 ∨ 1600 < n then (1, 0, 0) else if s = 2 ∧ i = false ∧ n = 0 then (0, 0, 0) else (s, n, n)
def feedS (s a b : Int) (i : Bool) (pa pb : Int) : Int × Int × Int :=
  if sndB s a b = true ∧ clnB pa pb = true then feedN s (if i = true then a + pa else a - pa) i else (1, 0, 0)
def repS (s a b : Int) : Int := if sndB s a b = true ∧ s = 0 then (if 0 < a then 1 else 0) else 2
def resetS (s a b : Int) : Int × Int × Int := if sndB s a b = true then (s, a, b) else (2, 0, 0)

theorem wr_id (x : Int) (h0 : -9223372036854775808 ≤ x) (h1 : x ≤ 9223372036854775807) : wrap64 x = x := by
  unfold wrap64
  omega
theorem ite_t {α : Type} {c : Prop} [Decidable c] {a b : α} (h : c) : (if c then a else b) = a := if_pos h

theorem sound_eq (s a b : Int) : detector_sound.f s a b = some (sndB s a b) := by
  unfold detector_sound.f sndB
  repeat' split
  all_goals first | (congr 1; apply decide_eq_decide.2; omega) | (congr 1; symm; apply decide_eq_false; omega)
theorem clean_eq (r : Int) (i : Bool) (a b : Int) : detector_clean.f r i a b = some (clnB a b) := by
  unfold detector_clean.f clnB
  repeat' split
  all_goals first | (congr 1; apply decide_eq_decide.2; omega) | (congr 1; symm; apply decide_eq_false; omega)
theorem feed_j2 (k : Nat) (n s a b r : Int) (i : Bool) (pa pb : Int) : detector_Feed.j2 (k + 1) n (decide (n < 0 ∨ 1600 < n)) s a b r i pa pb = some (feedN s n i) := by
  simp only [detector_Feed.j2, feedN, decide_eq_true_eq]
  cases i <;> repeat' split
  all_goals first | rfl | (exfalso; simp_all; done) | (exfalso; simp_all; omega)
theorem feed_j1 (k : Nat) (n s a b r : Int) (i : Bool) (pa pb : Int) : detector_Feed.j1 (k + 2) n s a b r i pa pb = some (feedN s n i) := by
  have h := feed_j2 k n s a b r i pa pb
  simp only [detector_Feed.j1]
  by_cases h0 : n < 0
  · rw [if_pos h0]
    rw [decide_eq_true (Or.inl h0)] at h
    exact h
  · rw [if_neg h0]
    have e : decide (n > 1600) = decide (n < 0 ∨ 1600 < n) := decide_eq_decide.2 (by omega)
    rw [e]
    exact h
theorem feed_eq (k : Nat) (s a b r : Int) (i : Bool) (pa pb : Int) : detector_Feed.f (k + 3) s a b r i pa pb = some (feedS s a b i pa pb) := by
  unfold detector_Feed.f feedS
  rw [sound_eq, clean_eq]
  simp only [Option.bind_some]
  by_cases hs : sndB s a b = true
  · rw [if_pos hs]
    by_cases hc : clnB pa pb = true
    · rw [if_pos ⟨hs, hc⟩]
      have hs' := of_decide_eq_true hs
      have hc' := of_decide_eq_true hc
      simp only [detector_Feed.j0, hc, Bool.not_true, Bool.false_eq_true, if_false]
      by_cases hi : i = true
      · rw [if_pos hi, if_pos hi, wr_id _ (by omega) (by omega)]
        exact feed_j1 k _ s a b r i pa pb
      · rw [if_neg hi, if_neg hi, wr_id _ (by omega) (by omega)]
        exact feed_j1 k _ s a b r i pa pb
    · rw [if_neg (fun h => hc h.2)]
      have hc' : clnB pa pb = false := by simpa using hc
      simp only [detector_Feed.j0, hc', Bool.not_false, if_true]
  · rw [if_neg hs, if_neg (fun h => hs h.1)]
    simp only [detector_Feed.j0, if_true]
theorem feed_ev (s a b r : Int) (i : Bool) (pa pb : Int) : Ev (fun k => detector_Feed.f k s a b r i pa pb) (feedS s a b i pa pb) :=
  ⟨3, fun k hk => by obtain ⟨m, rfl⟩ : ∃ m, k = m + 3 := ⟨k - 3, by omega⟩; exact feed_eq m s a b r i pa pb⟩

theorem rep_eq (k : Nat) (s a b : Int) : detector_Report.f (k + 1) s a b = some (repS s a b) := by
  unfold detector_Report.f repS
  rw [sound_eq]
  simp only [Option.bind_some, detector_Report.j0]
  by_cases hs : sndB s a b = true
  · by_cases h0 : s = 0
    · subst h0
      simp only [hs, if_true]
      by_cases ha : 0 < a
      · simp [ha]
      · simp [ha]
    · simp [hs, h0]
  · simp [hs]
theorem rep_ev (s a b : Int) : Ev (fun k => detector_Report.f k s a b) (repS s a b) :=
  ⟨1, fun k hk => by obtain ⟨m, rfl⟩ : ∃ m, k = m + 1 := ⟨k - 1, by omega⟩; exact rep_eq m s a b⟩
theorem awake_eq (k : Nat) (hk : 3 ≤ k) : railplanlaw31_awake.f k = some true := by
  obtain ⟨m, rfl⟩ : ∃ m, k = m + 3 := ⟨k - 3, by omega⟩
  unfold railplanlaw31_awake.f
  rw [feed_eq]
  simp only [Option.bind_some]
  rw [feed_eq]
  simp only [Option.bind_some]
  rw [rep_eq (m + 2), rep_eq (m + 2)]
  decide

theorem reset_eq (s a b : Int) : detector_Reset.f s a b = some (resetS s a b) := by
  unfold detector_Reset.f resetS
  rw [sound_eq]
  simp only [Option.bind_some]
  by_cases hs : sndB s a b = true
  · rw [if_pos hs, if_pos hs]
  · rw [if_neg hs, if_neg hs]

theorem DetectorExample : railplanlaw31_DetectorExample.Pure := by
  obtain ⟨K, hK⟩ : ∃ K, K = 0 := ⟨_, rfl⟩
  refine ⟨K + 4, ?_⟩
  unfold railplanlaw31_DetectorExample.f
  simp only [reset_eq, feed_eq (K + 1), rep_eq (K + 3), awake_eq (K + 4) (by omega), Option.bind_some, if_true]
  decide

end Go.Proofs.Ytellgcahkpaldaa.Pure
