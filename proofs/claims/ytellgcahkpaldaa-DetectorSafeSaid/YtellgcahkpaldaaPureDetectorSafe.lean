/- If one channel is right at every pulse, a counter that reports Clear has no axle inside: the pure statement of DetectorSafe, for every list of numbers. Conditions: none beyond the statement's own. -/
import Derived.Test.YtellgcahkpaldaaPDetectorSafex5
import Derived.Test.YtellgcahkpaldaaWSized
namespace Go.Proofs.Ytellgcahkpaldaa.PrintWords
/-- The row's text names this lemma so. -/
abbrev sized_ints := @Go.Proofs.YtellgcahkpaldaaW.PrintWords.sized_ints
end Go.Proofs.Ytellgcahkpaldaa.PrintWords
namespace Go.Proofs.Ytellgcahkpaldaa.Pure
open Go.RowKit Go.Proofs.Ytellgcahkpaldaa.PDetectorSafe Go.Proofs.YtellgcahkpaldaaW.PrintWords Go.Proofs.YtellgcahkpaldaaW.PrintLast
set_option linter.unusedVariables false
set_option linter.unusedSimpArgs false

def sndB (s a b : Int) : Bool := decide ((s = 0 ∨ s = 2) ∧ a = b ∧ 0 ≤ a ∧ a ≤ 1600)
def clnB (a b : Int) : Bool := decide (a = b ∧ 1 ≤ a ∧ a ≤ 400)
def feedN (s n : Int) (i : Bool) : Int × Int × Int :=
  if n < 0 ∨ 1600 < n then (1, 0, 0) else if s = 2 ∧ i = false ∧ n = 0 then (0, 0, 0) else (s, n, n)
def feedS (s a b : Int) (i : Bool) (pa pb : Int) : Int × Int × Int :=
  if sndB s a b = true ∧ clnB pa pb = true then feedN s (if i = true then a + pa else a - pa) i else (1, 0, 0)
def repS (s a b : Int) : Int := if sndB s a b = true ∧ s = 0 then (if 0 < a then 1 else 0) else 2
def resetS (s a b : Int) : Int × Int × Int := if sndB s a b = true then (s, a, b) else (2, 0, 0)

theorem wr_id (x : Int) (h0 : -9223372036854775808 ≤ x) (h1 : x ≤ 9223372036854775807) : wrap64 x = x := by
  unfold wrap64
  omega
theorem ite_t {α : Type} {c : Prop} [Decidable c] {a b : α} (h : c) : (if c then a else b) = a := if_pos h

theorem sound_eq (s a b : Int) : detector_sound.f s a b = some (sndB s a b) := by
  unfold detector_sound.f sndB
  repeat' split
  all_goals first | (congr 1; apply decide_eq_decide.2; omega) | (congr 1; symm; apply decide_eq_false; omega)
theorem clean_eq (r : Int) (i : Bool) (a b : Int) : detector_clean.f r i a b = some (clnB a b) := by
  unfold detector_clean.f clnB
  repeat' split
  all_goals first | (congr 1; apply decide_eq_decide.2; omega) | (congr 1; symm; apply decide_eq_false; omega)
theorem feed_j2 (k : Nat) (n s a b r : Int) (i : Bool) (pa pb : Int) : detector_Feed.j2 (k + 1) n (decide (n < 0 ∨ 1600 < n)) s a b r i pa pb = some (feedN s n i) := by
  simp only [detector_Feed.j2, feedN, decide_eq_true_eq]
  cases i <;> repeat' split
  all_goals first | rfl | (exfalso; simp_all; done) | (exfalso; simp_all; omega)
theorem feed_j1 (k : Nat) (n s a b r : Int) (i : Bool) (pa pb : Int) : detector_Feed.j1 (k + 2) n s a b r i pa pb = some (feedN s n i) := by
  have h := feed_j2 k n s a b r i pa pb
  simp only [detector_Feed.j1]
  by_cases h0 : n < 0
  · rw [if_pos h0]
    rw [decide_eq_true (Or.inl h0)] at h
    exact h
  · rw [if_neg h0]
    have e : decide (n > 1600) = decide (n < 0 ∨ 1600 < n) := decide_eq_decide.2 (by omega)
    rw [e]
    exact h
theorem feed_eq (k : Nat) (s a b r : Int) (i : Bool) (pa pb : Int) : detector_Feed.f (k + 3) s a b r i pa pb = some (feedS s a b i pa pb) := by
  unfold detector_Feed.f feedS
  rw [sound_eq, clean_eq]
  simp only [Option.bind_some]
  by_cases hs : sndB s a b = true
  · rw [if_pos hs]
    by_cases hc : clnB pa pb = true
    · rw [if_pos ⟨hs, hc⟩]
      have hs' := of_decide_eq_true hs
      have hc' := of_decide_eq_true hc
      simp only [detector_Feed.j0, hc, Bool.not_true, Bool.false_eq_true, if_false]
      by_cases hi : i = true
      · rw [if_pos hi, if_pos hi, wr_id _ (by omega) (by omega)]
        exact feed_j1 k _ s a b r i pa pb
      · rw [if_neg hi, if_neg hi, wr_id _ (by omega) (by omega)]
        exact feed_j1 k _ s a b r i pa pb
    · rw [if_neg (fun h => hc h.2)]
      have hc' : clnB pa pb = false := by simpa using hc
      simp only [detector_Feed.j0, hc', Bool.not_false, if_true]
  · rw [if_neg hs, if_neg (fun h => hs h.1)]
    simp only [detector_Feed.j0, if_true]
theorem feed_ev (s a b r : Int) (i : Bool) (pa pb : Int) : Ev (fun k => detector_Feed.f k s a b r i pa pb) (feedS s a b i pa pb) :=
  ⟨3, fun k hk => by obtain ⟨m, rfl⟩ : ∃ m, k = m + 3 := ⟨k - 3, by omega⟩; exact feed_eq m s a b r i pa pb⟩

theorem rep_eq (k : Nat) (s a b : Int) : detector_Report.f (k + 1) s a b = some (repS s a b) := by
  unfold detector_Report.f repS
  rw [sound_eq]
  simp only [Option.bind_some, detector_Report.j0]
  by_cases hs : sndB s a b = true
  · by_cases h0 : s = 0
    · subst h0
      simp only [hs, if_true]
      by_cases ha : 0 < a
      · simp [ha]
      · simp [ha]
    · simp [hs, h0]
  · simp [hs]
theorem rep_ev (s a b : Int) : Ev (fun k => detector_Report.f k s a b) (repS s a b) :=
  ⟨1, fun k hk => by obtain ⟨m, rfl⟩ : ∃ m, k = m + 1 := ⟨k - 1, by omega⟩; exact rep_eq m s a b⟩
theorem awake_eq (k : Nat) (hk : 3 ≤ k) : railplanlaw31_awake.f k = some true := by
  obtain ⟨m, rfl⟩ : ∃ m, k = m + 3 := ⟨k - 3, by omega⟩
  unfold railplanlaw31_awake.f
  rw [feed_eq]
  simp only [Option.bind_some]
  rw [feed_eq]
  simp only [Option.bind_some]
  rw [rep_eq (m + 2), rep_eq (m + 2)]
  decide

theorem reset_eq (s a b : Int) : detector_Reset.f s a b = some (resetS s a b) := by
  unfold detector_Reset.f resetS
  rw [sound_eq]
  simp only [Option.bind_some]
  by_cases hs : sndB s a b = true
  · rw [if_pos hs, if_pos hs]
  · rw [if_neg hs, if_neg hs]

def pickS (v n : Int) : Int := (IntKind.u64.wrap v) % n
theorem u64_lit (v : Int) : IntKind.u64.wrap v = v % 18446744073709551616 := rfl
theorem pick_eq (v n : Int) (h1 : 1 ≤ n) (h2 : n ≤ 1000000000000) : railplankeep_Pick.f v n = some (pickS v n) := by
  unfold railplankeep_Pick.f pickS
  have e : IntKind.u64.wrap n = n := by rw [u64_lit]; omega
  have h0 : 0 ≤ IntKind.u64.wrap v := by rw [u64_lit]; omega
  rw [e, if_neg (by omega), Int.tmod_eq_emod_of_nonneg h0]
  have := Int.emod_nonneg (IntKind.u64.wrap v) (show n ≠ 0 by omega)
  have := Int.emod_lt_of_pos (IntKind.u64.wrap v) (show 0 < n by omega)
  rw [wr_id _ (by omega) (by omega)]
theorem pickS_range (v n : Int) (h1 : 1 ≤ n) : 0 ≤ pickS v n ∧ pickS v n < n :=
  ⟨Int.emod_nonneg _ (by omega), Int.emod_lt_of_pos _ (by omega)⟩
/-- Some number below n, and the source moves on or has ended. -/
theorem next_some (l : List Int) (hl : l.length * 8 ≤ 140737488351232) (i n : Int) (hi : 0 ≤ i) (h1 : 1 ≤ n) (h2 : n ≤ 1000000000000) :
    ∃ v j, railplankeep_Source_Next.f l i n = some (v, j) ∧ 0 ≤ v ∧ v < n ∧ i ≤ j ∧ (i < l.length → i < j ∧ j ≤ l.length) := by
  unfold railplankeep_Source_Next.f
  by_cases h : i ≥ (l.length : Int)
  · rw [if_pos h]
    exact ⟨0, i, rfl, by omega, by omega, by omega, fun h' => by omega⟩
  · rw [if_neg h]
    have e1 : wrap64 (i + 1) = i + 1 := wr_id _ (by omega) (by omega)
    have e2 : wrap64 (i + 1 - 1) = i := by rw [show i + 1 - 1 = i by omega]; exact wr_id _ (by omega) (by omega)
    rw [e1, e2, if_pos hi, if_pos (by omega), pick_eq _ _ h1 h2]
    have := pickS_range (rd l i) n h1
    exact ⟨_, _, rfl, this.1, this.2, by omega, fun _ => by omega⟩
theorem next_end (l : List Int) (i n : Int) (h : ¬ i < (l.length : Int)) : railplankeep_Source_Next.f l i n = some (0, i) := by
  unfold railplankeep_Source_Next.f
  rw [if_pos (by omega)]

/-- What holds between two pulses: the counter is unsure, or it counts what is inside, or it is sweeping or sure with what is inside. -/
def Fits (s a b x : Int) : Prop := 0 ≤ x ∧ (s = 1 ∧ a = 0 ∧ b = 0 ∨ (s = 0 ∨ s = 2) ∧ a = x ∧ b = x)
theorem feed_fits (s a b x k pa pb : Int) (i : Bool) (h : Fits s a b x) (hk : 1 ≤ k) (hp : pa = k ∨ pb = k) (hi : i = false → k ≤ x) :
    Fits (feedS s a b i pa pb).1 (feedS s a b i pa pb).2.1 (feedS s a b i pa pb).2.2 (if i = true then x + k else x - k) := by
  obtain ⟨hx, h⟩ := h
  have hy : 0 ≤ (if i = true then x + k else x - k) := by
    cases i with
    | true => simp only [if_true]; omega
    | false => have := hi rfl; simp only [Bool.false_eq_true, if_false]; omega
  refine ⟨hy, ?_⟩
  unfold feedS
  by_cases hc : sndB s a b = true ∧ clnB pa pb = true
  · rw [if_pos hc]
    have h1 := of_decide_eq_true hc.1
    have h2 := of_decide_eq_true hc.2
    have e1 : pa = k := by omega
    have e2 : a = x := by omega
    subst e1 e2
    unfold feedN
    by_cases h3 : (if i = true then a + pa else a - pa) < 0 ∨ 1600 < (if i = true then a + pa else a - pa)
    · rw [if_pos h3]; exact .inl ⟨rfl, rfl, rfl⟩
    · rw [if_neg h3]
      by_cases h4 : s = 2 ∧ i = false ∧ (if i = true then a + pa else a - pa) = 0
      · rw [if_pos h4, h4.2.2]; exact .inr ⟨.inl rfl, rfl, rfl⟩
      · rw [if_neg h4]; exact .inr ⟨h1.1, rfl, rfl⟩
  · rw [if_neg hc]; exact .inl ⟨rfl, rfl, rfl⟩
theorem reset_fits (s a b : Int) (h : Fits s a b 0) : Fits (resetS s a b).1 (resetS s a b).2.1 (resetS s a b).2.2 0 := by
  unfold resetS
  by_cases hs : sndB s a b = true
  · rw [if_pos hs]; exact h
  · rw [if_neg hs]; exact ⟨by omega, .inr ⟨.inr rfl, rfl, rfl⟩⟩
theorem rep_fits (s a b x : Int) (h : Fits s a b x) (hr : repS s a b = 0) : x = 0 := by
  unfold repS at hr
  obtain ⟨hx, h⟩ := h
  by_cases hc : sndB s a b = true ∧ s = 0
  · rw [if_pos hc] at hr
    by_cases ha : 0 < a
    · rw [if_pos ha] at hr; omega
    · have := of_decide_eq_true hc.1; omega
  · rw [if_neg hc] at hr; omega
theorem round (l : List Int) (hl : l.length * 8 ≤ 140737488351232) (d : Nat) : ∀ (k : Nat) (i x s a b : Int), 0 ≤ i → (l.length : Int) - i ≤ d → i ≤ l.length → x ≤ 4 * i → Fits s a b x → 5 * d + 20 ≤ k →
    railplanlaw31_DetectorSafe.l0 k x l i s a b = some true := by
  induction d with
  | zero =>
    intro k i x s a b hi hd _ _ hf hk
    obtain ⟨k, rfl⟩ : ∃ m, k = m + 11 := ⟨k - 11, by omega⟩
    have hn : ¬ i < (l.length : Int) := by omega
    simp only [railplanlaw31_DetectorSafe.l0, railplankeep_Source_Left.f, Option.bind_some, decide_eq_true_eq, if_neg hn]
    rw [awake_eq _ (by omega)]
    rfl
  | succ d ih =>
    intro k i x s a b hi hd hil hx4 hf hk
    obtain ⟨k, rfl⟩ : ∃ m, k = m + 9 := ⟨k - 9, by omega⟩
    by_cases hn : i < (l.length : Int)
    · obtain ⟨v, j, hv, v0, v1, _, hj⟩ := next_some l hl i 4 hi (by omega) (by omega)
      have hj := hj hn
      have ew : wrap64 (1 + v) = 1 + v := wr_id _ (by omega) (by omega)
      have hx0 := hf.1
      have j4 : ∀ (m : Nat) (j2 y s a b : Int) (c : Bool), j ≤ j2 → j2 ≤ l.length → y ≤ 4 * j2 → Fits s a b y → (c = true → y = 0) → 5 * d + 20 ≤ m →
          railplanlaw31_DetectorSafe.j4 (m + 1) y c l j2 s a b = some true := by
        intro m j2 y s a b c h1 h2 h3 h4 h5 h6
        obtain ⟨m, rfl⟩ : ∃ q, m = q + 1 := ⟨m - 1, by omega⟩
        simp only [railplanlaw31_DetectorSafe.j4]
        have go : ∀ s a b : Int, Fits s a b y → (if repS s a b = 0 then (if y = 0 then railplanlaw31_DetectorSafe.l0 (m + 1) y l j2 s a b else some false) else railplanlaw31_DetectorSafe.l0 (m + 1) y l j2 s a b) = some true := by
          intro s a b hf
          have hl0 := ih (m + 1) j2 y s a b (by omega) (by omega) h2 h3 hf (by omega)
          by_cases hr : repS s a b = 0
          · rw [if_pos hr, if_pos (rep_fits s a b y hf hr)]; exact hl0
          · rw [if_neg hr]; exact hl0
        cases c with
        | true =>
          have hy := h5 rfl
          subst hy
          rw [if_pos rfl, reset_eq]
          simp only [Option.bind_some]
          rw [rep_eq m]
          simp only [Option.bind_some]
          exact go _ _ _ (reset_fits s a b h4)
        | false =>
          rw [if_neg (by simp), rep_eq m]
          simp only [Option.bind_some]
          exact go _ _ _ h4
      have j3 : ∀ (m : Nat) (j2 y pa pb : Int) (c : Bool), j ≤ j2 → j2 ≤ l.length → y ≤ 4 * j2 → (pa = 1 + v ∨ pb = 1 + v) → (c = false → 1 + v ≤ x) → y = (if c = true then x + (1 + v) else x - (1 + v)) → 5 * d + 21 ≤ m →
          railplanlaw31_DetectorSafe.j3 (m + 1) y l j2 s a b 0 c pa pb = some true := by
        intro m j2 y pa pb c h1 h2 h3 h4 h5 h6 h7
        obtain ⟨m, rfl⟩ : ∃ q, m = q + 3 := ⟨m - 3, by omega⟩
        have hfit := feed_fits s a b x (1 + v) pa pb c hf (by omega) h4 h5
        rw [← h6] at hfit
        simp only [railplanlaw31_DetectorSafe.j3]
        rw [feed_eq m]
        simp only [Option.bind_some]
        by_cases hy : y = 0
        · rw [if_pos hy]
          obtain ⟨v3, j3, hv3, _, _, hj3, hj3'⟩ := next_some l hl j2 3 (by omega) (by omega) (by omega)
          rw [hv3]
          simp only [Option.bind_some]
          have : j3 ≤ l.length := by
            by_cases hlt : j2 < (l.length : Int)
            · exact (hj3' hlt).2
            · have := next_end l j2 3 hlt
              rw [this] at hv3
              injection hv3 with hv3
              injection hv3 with _ hv3
              omega
          exact j4 (m + 2) j3 y _ _ _ _ (by omega) this (by omega) hfit (fun _ => hy) (by omega)
        · rw [if_neg hy]
          exact j4 (m + 2) j2 y _ _ _ _ h1 h2 h3 hfit (by simp) (by omega)
      have j2 : ∀ (m : Nat) (j2 pa pb : Int) (c : Bool), j ≤ j2 → j2 ≤ l.length → (pa = 1 + v ∨ pb = 1 + v) → (c = false → 1 + v ≤ x) → 5 * d + 22 ≤ m →
          railplanlaw31_DetectorSafe.j2 (m + 1) x (1 + v) c l j2 s a b 0 c pa pb = some true := by
        intro m j2 pa pb c h1 h2 h3 h4 h5
        obtain ⟨m, rfl⟩ : ∃ q, m = q + 1 := ⟨m - 1, by omega⟩
        simp only [railplanlaw31_DetectorSafe.j2]
        cases c with
        | true =>
          rw [if_pos rfl, wr_id _ (by omega) (by omega)]
          exact j3 m j2 _ pa pb true h1 h2 (by omega) h3 (by simp) (by simp) (by omega)
        | false =>
          have := h4 rfl
          rw [if_neg (by simp), wr_id _ (by omega) (by omega)]
          exact j3 m j2 _ pa pb false h1 h2 (by omega) h3 h4 (by simp) (by omega)
      have j1 : ∀ (j2 : Int) (c : Bool), j ≤ j2 → j2 ≤ l.length → (c = false → 1 + v ≤ x) →
          railplanlaw31_DetectorSafe.j1 (k + 8) x (1 + v) c l j2 s a b = some true := by
        intro jj c h1 h2 h3
        simp only [railplanlaw31_DetectorSafe.j1]
        obtain ⟨v3, j3, hv3, _, _, hj3, hj3'⟩ := next_some l hl jj 8 (by omega) (by omega) (by omega)
        have hle : ∀ (jj j3 v3 n : Int), jj ≤ l.length → railplankeep_Source_Next.f l jj n = some (v3, j3) → (jj < l.length → jj < j3 ∧ j3 ≤ l.length) → j3 ≤ l.length := by
          intro jj j3 v3 n h2 hv3 hj3'
          by_cases hlt : jj < (l.length : Int)
          · exact (hj3' hlt).2
          · have := next_end l jj n hlt
            rw [this] at hv3
            injection hv3 with hv3
            injection hv3 with _ hv3
            omega
        have hj3l := hle _ _ _ _ h2 hv3 hj3'
        rw [hv3]
        simp only [Option.bind_some]
        obtain ⟨v4, j4, hv4, v40, v41, hj4, hj4'⟩ := next_some l hl j3 9 (by omega) (by omega) (by omega)
        have hj4l := hle _ _ _ _ hj3l hv4 hj4'
        by_cases c0 : v3 = 0
        · rw [if_pos c0, hv4]
          simp only [Option.bind_some]
          exact j2 (k + 6) j4 _ _ c (by omega) hj4l (.inr rfl) h3 (by omega)
        · rw [if_neg c0]
          by_cases c1 : v3 = 1
          · rw [if_pos c1, hv4]
            simp only [Option.bind_some]
            exact j2 (k + 6) j4 _ _ c (by omega) hj4l (.inl rfl) h3 (by omega)
          · rw [if_neg c1]
            exact j2 (k + 6) j3 _ _ c (by omega) hj3l (.inl rfl) h3 (by omega)
      simp only [railplanlaw31_DetectorSafe.l0, railplankeep_Source_Left.f, Option.bind_some, decide_eq_true_eq, if_pos hn]
      rw [hv]
      simp only [Option.bind_some, ew]
      by_cases hx : x < 1 + v
      · rw [if_pos hx]
        exact j1 j true (by omega) (by omega) (by simp)
      · rw [if_neg hx]
        obtain ⟨v2, jj, hv2, _, _, hj2, hj2'⟩ := next_some l hl j 2 (by omega) (by omega) (by omega)
        rw [hv2]
        simp only [Option.bind_some]
        have : jj ≤ l.length := by
          by_cases hlt : j < (l.length : Int)
          · exact (hj2' hlt).2
          · have := next_end l j 2 hlt
            rw [this] at hv2
            injection hv2 with hv2
            injection hv2 with _ hv2
            omega
        exact j1 jj _ hj2 this (fun _ => by omega)
    · simp only [railplanlaw31_DetectorSafe.l0, railplankeep_Source_Left.f, Option.bind_some, decide_eq_true_eq, if_neg hn]
      rw [awake_eq _ (by omega)]
      rfl
theorem DetectorSafe : railplanlaw31_DetectorSafe.Pure := by
  intro l _ hl _
  obtain ⟨K, hK⟩ : ∃ K, K = 5 * l.length + 20 := ⟨_, rfl⟩
  refine ⟨K, ?_⟩
  unfold railplanlaw31_DetectorSafe.f railplankeep_From.f
  simp only [Option.bind_some]
  exact round l hl l.length _ 0 0 0 0 0 (by omega) (by omega) (by omega) (by omega) ⟨by omega, .inr ⟨.inl rfl, rfl, rfl⟩⟩ (by omega)

end Go.Proofs.Ytellgcahkpaldaa.Pure
