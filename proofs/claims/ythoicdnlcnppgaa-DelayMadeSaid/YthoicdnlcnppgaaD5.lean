/- Plain: the order of the moments. Conditions: none. -/
import Derived.Test.YthoicdnlcnppgaaD4
set_option linter.unusedVariables false
set_option linter.unusedSimpArgs false
namespace Go.Proofs.Ythoicdnlcnppgaa.Fn
open Go Go.Am
theorem nd_len : ∀ (n : Nat) (r : List Int), r.Nodup → (∀ v ∈ r, 0 ≤ v ∧ v < n) → r.length ≤ n
  | 0, r, _, h => by
    cases r with
    | nil => simp
    | cons a l => have := h a (by simp); omega
  | n + 1, r, hn, h => by
    have h1 := nd_len n (r.erase n) (hn.erase _) fun v hv => by
      have h2 := (hn.mem_erase_iff).1 hv
      have h3 := h v h2.2
      have := h2.1
      omega
    rw [List.length_erase] at h1
    split at h1 <;> omega
def inW (n : Int) (x : Wt) : Prop := 0 ≤ x.f ∧ x.f < n ∧ 0 ≤ x.t ∧ x.t < n
/-- A wait to v whose first moment is not among D. -/
def qW (D : List Int) (v : Int) (x : Wt) : Bool := decide (x.t = v ∧ x.f ∉ D)
/-- Waits to v that are not met, while c is worked off, before the wait k. -/
def fW (w : List Wt) (D : List Int) (c : Int) (k : Nat) (v : Int) : Nat := (w.take k).countP (qW (D ++ [c]) v) + (w.drop k).countP (qW D v)
theorem fW_zero {w D c v} : fW w D c 0 v = w.countP (qW D v) := by simp [fW]
theorem fW_len {w D c v} : fW w D c w.length v = w.countP (qW (D ++ [c]) v) := by simp [fW]
theorem fW_same {w D c k v} (hk : k < w.length) (h : w[k].f ≠ c ∨ w[k].t ≠ v) : fW w D c (k + 1) v = fW w D c k v := by
  unfold fW
  rw [List.drop_eq_getElem_cons hk, List.take_succ_eq_append_getElem hk, List.countP_append, List.countP_cons]
  have e : qW (D ++ [c]) v w[k] = qW D v w[k] := by
    unfold qW
    rcases h with h | h <;> simp [h]
  simp only [List.countP_cons, List.countP_nil, e]; omega
theorem fW_step {w D c k} (hk : k < w.length) (h : w[k].f = c) (hc : c ∉ D) : fW w D c k w[k].t = fW w D c (k + 1) w[k].t + 1 := by
  unfold fW
  rw [List.drop_eq_getElem_cons hk, List.take_succ_eq_append_getElem hk, List.countP_append, List.countP_cons]
  have e1 : qW (D ++ [c]) w[k].t w[k] = false := by simp [qW, h]
  have e2 : qW D w[k].t w[k] = true := by simp [qW, h, hc]
  simp only [List.countP_cons, List.countP_nil, e1, e2]; simp; omega
/-- What the order of the moments is. -/
structure SortQ (n : Nat) (w : List Wt) (r : List Int) : Prop where
  nd : r.Nodup
  rg : ∀ v ∈ r, 0 ≤ v ∧ v < n
  tp : ∀ j (hj : j < r.length), ∀ x ∈ w, x.t = r[j] → x.f ∈ r.take j
  fl : ∀ v : Int, 0 ≤ v → v < n → (∀ x ∈ w, x.t = v → x.f ∈ r) → v ∈ r
/-- While the moment at is worked off. -/
structure SrtI (n : Nat) (w : List Wt) (r : List Int) (k at' : Nat) (f : Int → Nat) : Prop where
  lt : at' < r.length
  nd : r.Nodup
  rg : ∀ v ∈ r, 0 ≤ v ∧ v < n
  tp : ∀ j (hj : j < r.length), ∀ x ∈ w, x.t = r[j] → x.f ∈ r.take j
  fe : ∀ v : Int, 0 ≤ v → v < n → f v = fW w (r.take at') r[at'] k v
  fz : ∀ v : Int, 0 ≤ v → v < n → (f v = 0 ↔ v ∈ r)
/-- Before the moment at. -/
structure SrtO (n : Nat) (w : List Wt) (r : List Int) (at' : Nat) (f : Int → Nat) : Prop where
  le : at' ≤ r.length
  nd : r.Nodup
  rg : ∀ v ∈ r, 0 ≤ v ∧ v < n
  tp : ∀ j (hj : j < r.length), ∀ x ∈ w, x.t = r[j] → x.f ∈ r.take j
  fe : ∀ v : Int, 0 ≤ v → v < n → f v = w.countP (qW (r.take at') v)
  fz : ∀ v : Int, 0 ≤ v → v < n → (f v = 0 ↔ v ∈ r)
variable {n : Nat} {w : List Wt} {r : List Int} {k at' : Nat} {f : Int → Nat}
theorem SrtO.inn (S : SrtO n w r at' f) (h : at' < r.length) : SrtI n w r 0 at' f :=
  ⟨h, S.nd, S.rg, S.tp, fun v h1 h2 => by rw [fW_zero]; exact S.fe v h1 h2, S.fz⟩
theorem SrtI.out (S : SrtI n w r w.length at' f) : SrtO n w r (at' + 1) f :=
  ⟨S.lt, S.nd, S.rg, S.tp, fun v h1 h2 => by rw [List.take_succ_eq_append_getElem S.lt, ← fW_len]; exact S.fe v h1 h2, S.fz⟩
theorem SrtO.fin (S : SrtO n w r at' f) (h : ¬ at' < r.length) : SortQ n w r := by
  refine ⟨S.nd, S.rg, S.tp, fun v h1 h2 hv => (S.fz v h1 h2).1 ?_⟩
  rw [S.fe v h1 h2, List.take_of_length_le (by omega), List.countP_eq_zero]
  intro x hx
  simp only [qW, decide_eq_true_eq]
  exact fun h => h.2 (hv x hx h.1)
theorem SrtO.len (S : SrtO n w r at' f) : r.length ≤ n := nd_len n r S.nd S.rg
theorem SrtI.notD (S : SrtI n w r k at' f) : r[at']'S.lt ∉ r.take at' := by
  have h := S.nd
  have e : r = r.take at' ++ r[at']'S.lt :: r.drop (at' + 1) := by rw [← List.drop_eq_getElem_cons S.lt, List.take_append_drop]
  rw [e] at h
  have := (List.nodup_append.1 h).2.2
  exact fun hm => this _ hm _ List.mem_cons_self rfl
/-- A wait from another moment. -/
theorem SrtI.skip (S : SrtI n w r k at' f) (hk : k < w.length) (h : w[k].f ≠ r[at']'S.lt) : SrtI n w r (k + 1) at' f :=
  ⟨S.lt, S.nd, S.rg, S.tp, fun v h1 h2 => by rw [fW_same hk (.inl h)]; exact S.fe v h1 h2, S.fz⟩
def updI (f : Int → Nat) (a : Int) (c : Nat) (v : Int) : Nat := if v = a then c else f v
theorem SrtI.pos (S : SrtI n w r k at' f) (hk : k < w.length) (hw : inW n w[k]) (h : w[k].f = r[at']'S.lt) : f w[k].t = fW w (r.take at') (r[at']'S.lt) (k + 1) w[k].t + 1 := by
  rw [S.fe _ hw.2.2.1 hw.2.2.2, fW_step hk h S.notD]
/-- A wait that is met, and not the last one. -/
theorem SrtI.dec (S : SrtI n w r k at' f) (hk : k < w.length) (hw : inW n w[k]) (h : w[k].f = r[at']'S.lt) (hz : f w[k].t - 1 ≠ 0) : SrtI n w r (k + 1) at' (updI f w[k].t (f w[k].t - 1)) := by
  have hp := S.pos hk hw h
  refine ⟨S.lt, S.nd, S.rg, S.tp, fun v h1 h2 => ?_, fun v h1 h2 => ?_⟩
  · unfold updI
    split
    · rename_i e; subst e; omega
    · rename_i e; rw [fW_same hk (.inr fun h => e h.symm)]; exact S.fe v h1 h2
  · unfold updI
    split
    · rename_i e; subst e
      have := S.fz _ h1 h2
      constructor
      · intro h; exact absurd h hz
      · intro h; have := this.2 h; omega
    · exact S.fz v h1 h2
/-- The last wait to a moment is met. -/
theorem SrtI.app (S : SrtI n w r k at' f) (hk : k < w.length) (hw : inW n w[k]) (h : w[k].f = r[at']'S.lt) (hz : f w[k].t - 1 = 0) : SrtI n w (r ++ [w[k].t]) (k + 1) at' (updI f w[k].t (f w[k].t - 1)) := by
  have hp := S.pos hk hw h
  have hlt := S.lt
  have hni : w[k].t ∉ r := fun hm => by have := (S.fz _ hw.2.2.1 hw.2.2.2).2 hm; omega
  have e1 : (r ++ [w[k].t]).take at' = r.take at' := List.take_append_of_le_length (by omega)
  have e2 : (r ++ [w[k].t])[at']'(by simp; omega) = r[at'] := List.getElem_append_left hlt
  refine ⟨by simp; omega, ?_, fun v hv => ?_, fun j hj x hx hxt => ?_, fun v h1 h2 => ?_, fun v h1 h2 => ?_⟩
  · refine List.nodup_append.2 ⟨S.nd, by simp, fun a ha b hb e => ?_⟩
    simp at hb; subst hb; subst e; exact hni ha
  · rcases List.mem_append.1 hv with hv | hv
    · exact S.rg v hv
    · simp at hv; subst hv; exact hw.2.2
  · by_cases hj2 : j < r.length
    · rw [List.getElem_append_left hj2] at hxt
      rw [List.take_append_of_le_length (by omega)]
      exact S.tp j hj2 x hx hxt
    · have hje : j = r.length := by simp at hj; omega
      subst hje
      simp at hxt
      rw [List.take_append_of_le_length (by omega), List.take_length]
      have h0 : fW w (r.take at') (r[at']) (k + 1) w[k].t = 0 := by omega
      unfold fW at h0
      have hx0 : x ∈ w.take (k + 1) ∨ x ∈ w.drop (k + 1) := by rw [← List.mem_append, List.take_append_drop]; exact hx
      rcases hx0 with hx0 | hx0
      · have := List.countP_eq_zero.1 (show (w.take (k + 1)).countP (qW (r.take at' ++ [r[at']]) w[k].t) = 0 by omega) x hx0
        simp only [qW, hxt, decide_eq_true_eq, true_and, Classical.not_not] at this
        rcases List.mem_append.1 this with h | h
        · exact List.mem_of_mem_take h
        · simp at h; rw [h]; exact List.getElem_mem hlt
      · have := List.countP_eq_zero.1 (show (w.drop (k + 1)).countP (qW (r.take at') w[k].t) = 0 by omega) x hx0
        simp only [qW, hxt, decide_eq_true_eq, true_and, Classical.not_not] at this
        exact List.mem_of_mem_take this
  · rw [e1, e2]
    unfold updI
    split
    · rename_i e; subst e; omega
    · rename_i e; rw [fW_same hk (.inr fun h => e h.symm)]; exact S.fe v h1 h2
  · unfold updI
    split
    · rename_i e; subst e
      simp [hz]
    · rename_i e
      rw [S.fz v h1 h2]; simp [e]
/-- The start. -/
def f0W (w : List Wt) (v : Int) : Nat := w.countP (qW [] v)
theorem SrtO.start (w : List Wt) : SrtO n w (((List.range n).map fun v : Nat => (v : Int)).filter fun v => f0W w v = 0) 0 (f0W w) := by
  refine ⟨by simp, ?_, fun v hv => ?_, fun j hj x hx hxt => ?_, fun v _ _ => rfl, fun v h1 h2 => ?_⟩
  · refine List.Pairwise.filter _ ?_
    refine List.Pairwise.map _ (fun a b h e => h (by omega)) List.nodup_range
  · have := (List.mem_filter.1 hv).1
    simp at this
    obtain ⟨a, ha, rfl⟩ := this
    omega
  · have hm := List.getElem_mem hj
    have h0 := (List.mem_filter.1 hm).2
    rw [← hxt] at h0
    simp only [decide_eq_true_eq] at h0
    have := List.countP_eq_zero.1 h0 x hx
    simp [qW] at this
  · rw [List.mem_filter]
    simp only [decide_eq_true_eq, List.mem_map, List.mem_range]
    constructor
    · intro h; exact ⟨⟨v.toNat, by omega, by omega⟩, h⟩
    · exact fun h => h.2
end Go.Proofs.Ythoicdnlcnppgaa.Fn
