/- Plain: the seconds of the moments. Conditions: none. -/
import Derived.Test.YthoicdnlcnppgaaD7
set_option linter.unusedVariables false
set_option linter.unusedSimpArgs false
namespace Go.Proofs.Ythoicdnlcnppgaa.Fn
open Go Go.Am
def momS (m : List Mom) (i : Int) : Mom := m.getD i.toNat ⟨0, false⟩
/-- Whether a wait is kept. -/
def kpS (m : List Mom) (a : Int → Int) (x : Wt) : Bool := decide (x.ms = -1 ∨ a x.f + x.mn ≤ (momS m x.t).t + x.ms)
/-- A wait worked off: the base and whether it is bound. -/
def stB (m : List Mom) (a : Int → Int) (i : Int) (s : Int × Bool) (x : Wt) : Int × Bool :=
  if x.t = i ∧ kpS m a x = true ∧ (s.2 = false ∨ s.1 < a x.f + x.mn) then (a x.f + x.mn, true) else s
def foldB (m : List Mom) (a : Int → Int) (i : Int) (w : List Wt) : Int × Bool := w.foldl (stB m a i) ((momS m i).t, (momS m i).hold)
def baseS (m : List Mom) (w : List Wt) (a : Int → Int) (i : Int) : Int := (foldB m a i w).1
def priS (p : List Pr) (i : Int) : Int := ((p.filter fun x => x.m = i).map Pr.s).sum
def updZ {α : Type} (f : Int → α) (i : Int) (c : α) (v : Int) : α := if v = i then c else f v
theorem kpS_congr {m : List Mom} {a a' : Int → Int} {x : Wt} (h : a x.f = a' x.f) : kpS m a x = kpS m a' x := by unfold kpS; rw [h]
theorem foldB_congr {m : List Mom} {a a' : Int → Int} {i : Int} (w : List Wt) (h : ∀ x ∈ w, x.t = i → a x.f = a' x.f) : foldB m a i w = foldB m a' i w := by
  unfold foldB
  generalize ((momS m i).t, (momS m i).hold) = s
  induction w generalizing s with
  | nil => rfl
  | cons x w ih =>
    rw [List.foldl_cons, List.foldl_cons]
    have e : stB m a i s x = stB m a' i s x := by
      unfold stB
      by_cases hx : x.t = i
      · have h1 := h x (by simp) hx
        rw [kpS_congr h1, h1]
      · rw [if_neg (fun h => hx h.1), if_neg (fun h => hx h.1)]
    rw [e]
    exact ih (fun y hy => h y (by simp [hy])) _
theorem baseS_congr {m : List Mom} {a a' : Int → Int} {i : Int} (w : List Wt) (h : ∀ x ∈ w, x.t = i → a x.f = a' x.f) : baseS m w a i = baseS m w a' i := by
  unfold baseS; rw [foldB_congr w h]
theorem foldB_bound {m : List Mom} {a : Int → Int} {i B : Int} (w : List Wt) (hw : ∀ x ∈ w, 0 ≤ x.mn ∧ x.mn ≤ 4194304) (ha : ∀ v, 0 ≤ a v ∧ a v ≤ B) (s : Int × Bool) (hs : 0 ≤ s.1 ∧ s.1 ≤ B + 4194304) :
    0 ≤ (w.foldl (stB m a i) s).1 ∧ (w.foldl (stB m a i) s).1 ≤ B + 4194304 := by
  induction w generalizing s with
  | nil => exact hs
  | cons x w ih =>
    rw [List.foldl_cons]
    refine ih (fun y hy => hw y (by simp [hy])) _ ?_
    unfold stB
    split
    · have h1 := hw x (by simp)
      have h2 := ha x.f
      (refine ⟨?_, ?_⟩ <;> (try dsimp only) <;> omega)
    · exact hs
theorem within_iff {v : Int} : withinS v = true ↔ 0 ≤ v ∧ v ≤ 4194304 := by simp [withinS]
theorem momS_ok {m : List Mom} (h : ∀ x ∈ m, withinS x.t = true) (i : Int) : 0 ≤ (momS m i).t ∧ (momS m i).t ≤ 4194304 := by
  unfold momS
  rw [List.getD]
  cases e : m[i.toNat]? with
  | none => simp
  | some x => exact within_iff.1 (h x (List.mem_of_getElem? e))
theorem priS_ok {p : List Pr} {n : Int} (h : ∀ x ∈ p, okQ n x) (hd : (p.map Pr.m).Nodup) (i : Int) : 0 ≤ priS p i ∧ priS p i ≤ 4194304 := by
  unfold priS
  induction p with
  | nil => simp
  | cons x p ih =>
    have h1 := List.nodup_cons.1 hd
    by_cases e : x.m = i
    · have h0 : p.filter (fun x => decide (x.m = i)) = [] := by
        rw [List.filter_eq_nil_iff]
        intro y hy
        simp only [decide_eq_true_eq]
        exact fun hy2 => h1.1 (by rw [e, ← hy2]; exact List.mem_map_of_mem hy)
      have h2 := within_iff.1 (h x (by simp)).2.2
      simp [e, h0]; omega
    · have := ih (fun y hy => h y (by simp [hy])) h1.2
      simpa [e] using this
/-- Before the moment number idx of the order. -/
structure PrI (m : List Mom) (w : List Wt) (p : List Pr) (r : List Int) (idx : Nat) (b a : Int → Int) (kp : Int → Bool) : Prop where
  eb : ∀ v ∈ r.take idx, b v = baseS m w a v
  ea : ∀ v ∈ r.take idx, a v = b v + priS p v
  ek : ∀ k (hk : k < w.length), w[k].t ∈ r.take idx → kp k = kpS m a w[k]
  bd : ∀ v, 0 ≤ a v ∧ a v ≤ 8388608 * idx + 4194304
theorem PrI.start {m : List Mom} {w : List Wt} {p : List Pr} {r : List Int} {b : Int → Int} {kp : Int → Bool} : PrI m w p r 0 b (fun _ => 0) kp :=
  ⟨by simp, by simp, by simp, fun v => by simp⟩
theorem PrI.base_ok {m : List Mom} {w : List Wt} {p : List Pr} {r : List Int} {idx : Nat} {b a : Int → Int} {kp : Int → Bool} (P : PrI m w p r idx b a kp) (V : Valid m w p) (i : Int) :
    0 ≤ baseS m w a i ∧ baseS m w a i ≤ 8388608 * idx + 4194304 + 4194304 := by
  have h1 := momS_ok V.mm i
  exact foldB_bound w (fun x hx => within_iff.1 (V.ww x hx).2.2.1) P.bd _ ⟨h1.1, by (try dsimp only); omega⟩
theorem PrI.step {m : List Mom} {w : List Wt} {p : List Pr} {r : List Int} {idx : Nat} {b a : Int → Int} {kp kp' : Int → Bool} (P : PrI m w p r idx b a kp) (V : Valid m w p) (S : SortQ m.length w r) (hi : idx < r.length)
    (hkp : ∀ k (hk : k < w.length), kp' k = if w[k].t = r[idx] then kpS m a w[k] else kp k) :
    PrI m w p r (idx + 1) (updZ b r[idx] (baseS m w a r[idx])) (updZ a r[idx] (baseS m w a r[idx] + priS p r[idx])) kp' := by
  have hni : r[idx] ∉ r.take idx := by
    have h := S.nd
    have e : r = r.take idx ++ r[idx] :: r.drop (idx + 1) := by rw [← List.drop_eq_getElem_cons hi, List.take_append_drop]
    rw [e] at h
    exact fun hm => (List.nodup_append.1 h).2.2 _ hm _ List.mem_cons_self rfl
  have tp : ∀ v ∈ r.take (idx + 1), ∀ x ∈ w, x.t = v → x.f ∈ r.take idx := by
    intro v hv x hx hxt
    obtain ⟨j, hj, rfl⟩ := List.mem_iff_getElem.1 hv
    simp only [List.length_take] at hj
    rw [List.getElem_take] at hxt
    have := S.tp j (by omega) x hx hxt
    exact List.mem_of_mem_take (i := j) (by rw [List.take_take, Nat.min_eq_left (by omega)]; exact this)
  have ca : ∀ v ∈ r.take (idx + 1), ∀ x ∈ w, x.t = v → a x.f = updZ a r[idx] (baseS m w a r[idx] + priS p r[idx]) x.f := by
    intro v hv x hx hxt
    have h1 := tp v hv x hx hxt
    unfold updZ
    rw [if_neg (fun e => hni (by rw [← e]; exact h1))]
  have sp : ∀ v, v ∈ r.take (idx + 1) → v = r[idx] ∨ v ∈ r.take idx ∧ v ≠ r[idx] := by
    intro v hv
    rw [List.take_succ_eq_append_getElem hi] at hv
    rcases List.mem_append.1 hv with h | h
    · exact .inr ⟨h, fun e => hni (e ▸ h)⟩
    · simp at h; exact .inl h
  refine ⟨fun v hv => ?_, fun v hv => ?_, fun k hk hv => ?_, fun v => ?_⟩
  · rw [← baseS_congr w (ca v hv)]
    rcases sp v hv with rfl | ⟨h1, h2⟩
    · simp [updZ]
    · rw [← P.eb v h1]; simp [updZ, h2]
  · rcases sp v hv with rfl | ⟨h1, h2⟩
    · simp [updZ]
    · have := P.ea v h1
      simp [updZ, h2, this]
  · rw [hkp k hk, ← kpS_congr (ca _ hv _ (List.getElem_mem hk) rfl)]
    rcases sp _ hv with h | ⟨h1, h2⟩
    · rw [if_pos h]
    · rw [if_neg h2]; exact P.ek k hk h1
  · have h1 := P.bd v
    have h2 := P.base_ok V r[idx]
    have h3 := priS_ok V.pp V.pd r[idx]
    unfold updZ
    split <;> omega
/-- What a propagation is: it holds of one pair of functions alone, on the moments and the waits. -/
structure PropQ (m : List Mom) (w : List Wt) (p : List Pr) (b a : Int → Int) (kp : Int → Bool) : Prop where
  eb : ∀ v : Int, 0 ≤ v → v < m.length → b v = baseS m w a v
  ea : ∀ v : Int, 0 ≤ v → v < m.length → a v = b v + priS p v
  ek : ∀ k (hk : k < w.length), kp k = kpS m a w[k]
  bd : ∀ v, 0 ≤ a v ∧ a v ≤ 8388608 * m.length + 4194304
theorem SortQ.all {n : Nat} {w : List Wt} {r : List Int} (S : SortQ n w r) (h : r.length = n) (v : Int) (h0 : 0 ≤ v) (h1 : v < n) : v ∈ r := by
  refine Classical.byContradiction fun hv => ?_
  have := nd_len n (v :: r) (List.nodup_cons.2 ⟨hv, S.nd⟩) fun y hy => by
    rcases List.mem_cons.1 hy with rfl | hy
    · omega
    · exact S.rg y hy
  simp at this; omega
theorem PrI.fin {m : List Mom} {w : List Wt} {p : List Pr} {r : List Int} {b a : Int → Int} {kp : Int → Bool} (P : PrI m w p r r.length b a kp) (V : Valid m w p) (S : SortQ m.length w r) (h : r.length = m.length) : PropQ m w p b a kp := by
  obtain ⟨eb, ea, ek, bd⟩ := P
  rw [List.take_length] at eb ea ek
  exact ⟨fun v h0 h1 => eb v (S.all h v h0 h1), fun v h0 h1 => ea v (S.all h v h0 h1), fun k hk => ek k hk (by
    have := (V.ww _ (List.getElem_mem hk)).1
    exact S.all h _ this.2.2.1 this.2.2.2), by rw [← h]; exact bd⟩
/-- There is one propagation. -/
theorem PropQ.uniq {m : List Mom} {w : List Wt} {p : List Pr} {b a b' a' : Int → Int} {kp kp' : Int → Bool} (P : PropQ m w p b a kp) (P' : PropQ m w p b' a' kp') (V : Valid m w p) :
    (∀ v : Int, 0 ≤ v → v < m.length → b v = b' v ∧ a v = a' v) ∧ ∀ k : Nat, k < w.length → kp k = kp' k := by
  obtain ⟨r, S, hr⟩ := V.s
  have H : ∀ j, j ≤ r.length → ∀ v ∈ r.take j, b v = b' v ∧ a v = a' v := by
    intro j
    induction j with
    | zero => intro _ v hv; simp at hv
    | succ j ih =>
      intro hj v hv
      rw [List.take_succ_eq_append_getElem (by omega)] at hv
      rcases List.mem_append.1 hv with hv | hv
      · exact ih (by omega) v hv
      · simp at hv
        have h1 := S.rg _ (List.getElem_mem (show j < r.length by omega))
        rw [← hv] at h1
        have e : baseS m w a v = baseS m w a' v := baseS_congr w fun x hx hxt => (ih (by omega) _ (S.tp j (by omega) x hx (hxt.trans hv))).2
        have e1 := P.eb v h1.1 h1.2
        have e2 := P'.eb v h1.1 h1.2
        have e3 := P.ea v h1.1 h1.2
        have e4 := P'.ea v h1.1 h1.2
        omega
  have H2 : ∀ v : Int, 0 ≤ v → v < m.length → b v = b' v ∧ a v = a' v := fun v h0 h1 => H r.length (Nat.le_refl _) v (by rw [List.take_length]; exact S.all hr v h0 h1)
  refine ⟨H2, fun k hk => ?_⟩
  have hv := (V.ww _ (List.getElem_mem hk)).1
  rw [P.ek k hk, P'.ek k hk]
  exact kpS_congr (H2 _ hv.1 hv.2.1).2
end Go.Proofs.Ythoicdnlcnppgaa.Fn
