/- Plain: what the second of a moment is. Conditions: none. -/
import Derived.Test.YthoicdnlcnppgaaD10
set_option linter.unusedVariables false
set_option linter.unusedSimpArgs false
namespace Go.Proofs.Ythoicdnlcnppgaa.Fn
open Go Go.Am
set_option maxRecDepth 100000
set_option maxHeartbeats 1000000
/-- A kept wait to the moment i. -/
def KW (m : List Mom) (a : Int → Int) (i : Int) (x : Wt) : Prop := x.t = i ∧ kpS m a x = true
structure FB0 (M : Mom) (m : List Mom) (a : Int → Int) (i : Int) (w : List Wt) (s : Int × Bool) : Prop where
  bd : s.2 = true ↔ M.hold = true ∨ ∃ x ∈ w, KW m a i x
  hd : M.hold = true → M.t ≤ s.1
  ge : ∀ x ∈ w, KW m a i x → a x.f + x.mn ≤ s.1
  eq : (s.1 = M.t ∧ (M.hold = true ∨ ∀ x ∈ w, ¬ KW m a i x)) ∨ ∃ x ∈ w, KW m a i x ∧ s.1 = a x.f + x.mn
abbrev FB (m : List Mom) (a : Int → Int) (i : Int) (w : List Wt) (s : Int × Bool) : Prop := FB0 (momS m i) m a i w s
theorem FB.step {M : Mom} {m : List Mom} {a : Int → Int} {i : Int} {w : List Wt} {s : Int × Bool} (F : FB0 M m a i w s) (x : Wt) : FB0 M m a i (w ++ [x]) (stB m a i s x) := by
  obtain ⟨bd, hd, ge, eq⟩ := F
  by_cases hk : KW m a i x
  · unfold stB
    by_cases hs : s.2 = false ∨ s.1 < a x.f + x.mn
    · rw [if_pos ⟨hk.1, hk.2, hs⟩]
      refine ⟨?_, fun h => ?_, fun y hy hyk => ?_, .inr ⟨x, by simp, hk, rfl⟩⟩
      · exact ⟨fun _ => .inr ⟨x, by simp, hk⟩, fun _ => rfl⟩
      · rcases hs with hs | hs
        · rw [bd.2 (.inl h)] at hs; cases hs
        · have := hd h; (try dsimp only); omega
      · rcases List.mem_append.1 hy with hy | hy
        · rcases hs with hs | hs
          · rw [bd.2 (.inr ⟨y, hy, hyk⟩)] at hs; cases hs
          · have := ge y hy hyk; (try dsimp only); omega
        · simp at hy; subst hy; exact Int.le_refl _
    · rw [if_neg (fun h => hs h.2.2)]
      have h2 : s.2 = true := by cases h : s.2 <;> simp_all
      have h1 : a x.f + x.mn ≤ s.1 := by
        refine Int.not_lt.1 fun h => hs (.inr h)
      refine ⟨⟨fun _ => .inr ⟨x, by simp, hk⟩, fun _ => h2⟩, hd, fun y hy hyk => ?_, ?_⟩
      · rcases List.mem_append.1 hy with hy | hy
        · exact ge y hy hyk
        · simp at hy; subst hy; exact h1
      · rcases eq with ⟨e, h | h⟩ | ⟨y, hy, hyk, e⟩
        · exact .inl ⟨e, .inl h⟩
        · rcases bd.1 h2 with h3 | ⟨y, hy, hyk⟩
          · exact .inl ⟨e, .inl h3⟩
          · exact absurd hyk (h y hy)
        · exact .inr ⟨y, by simp [hy], hyk, e⟩
  · have e : stB m a i s x = s := by unfold stB; rw [if_neg (fun h => hk ⟨h.1, h.2.1⟩)]
    rw [e]
    have hx : ∀ y ∈ w ++ [x], KW m a i y → y ∈ w := fun y hy hyk => by
      rcases List.mem_append.1 hy with hy | hy
      · exact hy
      · simp at hy; subst hy; exact absurd hyk hk
    refine ⟨bd.trans ⟨?_, ?_⟩, hd, fun y hy hyk => ge y (hx y hy hyk) hyk, ?_⟩
    · rintro (h | ⟨y, hy, hyk⟩)
      · exact .inl h
      · exact .inr ⟨y, by simp [hy], hyk⟩
    · rintro (h | ⟨y, hy, hyk⟩)
      · exact .inl h
      · exact .inr ⟨y, hx y hy hyk, hyk⟩
    · rcases eq with ⟨e, h | h⟩ | ⟨y, hy, hyk, e⟩
      · exact .inl ⟨e, .inl h⟩
      · exact .inl ⟨e, .inr fun y hy hyk => h y (hx y hy hyk) hyk⟩
      · exact .inr ⟨y, by simp [hy], hyk, e⟩
theorem FB.all {M : Mom} {m : List Mom} {a : Int → Int} {i : Int} : ∀ (w pre : List Wt) (s : Int × Bool), FB0 M m a i pre s → FB0 M m a i (pre ++ w) (w.foldl (stB m a i) s)
  | [], pre, s, F => by simpa using F
  | x :: w, pre, s, F => by
    have := FB.all w (pre ++ [x]) _ (FB.step F x)
    rw [List.append_assoc] at this
    exact this
theorem foldB_spec (m : List Mom) (a : Int → Int) (i : Int) (w : List Wt) : FB m a i w (foldB m a i w) := by
  have := FB.all (M := momS m i) (m := m) (a := a) (i := i) w [] ((momS m i).t, (momS m i).hold) ⟨by simp, fun _ => Int.le_refl _, by simp, .inl ⟨rfl, .inr (by simp)⟩⟩
  exact this
theorem momS_get {m : List Mom} {i : Nat} (h : i < m.length) : momS m i = m[i] := by simp [momS, h]
theorem FB_mom {m : List Mom} {a : Int → Int} {i : Nat} {w : List Wt} {s : Int × Bool} (h : i < m.length) : FB m a i w s = FB0 m[i] m a i w s := by unfold FB; rw [momS_get h]
theorem PropQ.sec {m : List Mom} {w : List Wt} {p : List Pr} {b a : Int → Int} {kp : Int → Bool} (P : PropQ m w p b a kp) (V : Valid m w p) {i : Nat} (hi : i < m.length) : a i = (foldB m a i w).1 + priS p i ∧ 0 ≤ priS p i :=
  ⟨by rw [P.ea i (by omega) (by omega), P.eb i (by omega) (by omega)]; rfl, (priS_ok V.pp V.pd i).1⟩
theorem updK {o : Nat → Option AObj} {f q v : Nat} {C : Option AObj} (h1 : v ≠ q) (h2 : v < f ∨ notFam f (o v)) : upd (killBut f q o) q C v = o v := by
  rw [updO_ne _ _ _ _ ⟨h1⟩]
  rcases h2 with h2 | h2
  · exact killBut_old h2
  · exact killBut_not h2
section
variable {h : AH} {lo j : Nat} {ym yw yp : Cell} {lm : List Mom} {lw : List Wt} {lp : List Pr} {fm fw fp : Nat}
theorem Del.nfj (d : Del h lo j ym lm fm yw lw fw yp lp fp) {f : Nat} (hf : f ≠ j) : notFam f (h.o j) := by
  obtain ⟨x, l, p, v, a, b, c, _⟩ := d.s
  rw [c]; exact fun e => hf e.symm
/-- A store into the waits. -/
theorem Del.storeW (d : Del h lo j ym lm fm yw lw fw yp lp fp) {q n : Nat} {L : List Wt} {cs : List Cell} (hy : yw = .slice q 0 lw.length) (hq : h.o q = some (.cells fw false 35 4 cs)) (hl : L.length = lw.length) (hn : h.nx ≤ n) :
    Del ⟨upd (killBut fw q h.o) q (some (.cells fw false 35 4 (L.flatMap enW))), n⟩ lo j ym lm fm yw L fw yp lp fp := by
  obtain ⟨h1, h2, h3⟩ : lo ≤ fw ∧ fw ≤ q ∧ q < h.nx := by
    rcases d.w with ⟨hx, _⟩ | ⟨q', hq', _, h1, h2, h3⟩
    · rw [hx] at hy; cases hy
    · rw [hy] at hq'; cases hq'; exact ⟨h1, h2, h3⟩
  have hj : q ≠ j := fun e => d.s.own (e ▸ hq)
  refine d.setW (d.s.keep hn fun v hv => ?_) hn (fun v hv hvj hvf => ?_) (.inr ⟨q, by rw [hl]; exact hy, by simp, h1, h2, Nat.lt_of_lt_of_le h3 hn⟩) (.inl rfl)
  · rcases hv with hv | rfl
    · exact updK (by omega) (.inl (by omega))
    · exact updK (fun e => hj e.symm) (.inr (d.nfj d.wj))
  · by_cases e : v = q
    · subst e
      rcases hvf with hvf | hvf
      · omega
      · rw [hq] at hvf; exact absurd rfl hvf
    · exact updK e (hvf.imp_left fun h => by omega)
/-- A store into the moments. -/
theorem Del.storeM (d : Del h lo j ym lm fm yw lw fw yp lp fp) {q n : Nat} {L : List Mom} {cs : List Cell} (hy : ym = .slice q 0 lm.length) (hq : h.o q = some (.cells fm false 33 2 cs)) (hl : L.length = lm.length) (hn : h.nx ≤ n) :
    Del ⟨upd (killBut fm q h.o) q (some (.cells fm false 33 2 (L.flatMap enM))), n⟩ lo j ym L fm yw lw fw yp lp fp := by
  obtain ⟨h1, h2, h3⟩ : lo ≤ fm ∧ fm ≤ q ∧ q < h.nx := by
    rcases d.m with ⟨hx, _⟩ | ⟨q', hq', _, h1, h2, h3⟩
    · rw [hx] at hy; cases hy
    · rw [hy] at hq'; cases hq'; exact ⟨h1, h2, h3⟩
  have hj : q ≠ j := fun e => d.s.own (e ▸ hq)
  refine d.setM (d.s.keep hn fun v hv => ?_) hn (fun v hv hvj hvf => ?_) (.inr ⟨q, by rw [hl]; exact hy, by simp, h1, h2, Nat.lt_of_lt_of_le h3 hn⟩) (.inl rfl)
  · rcases hv with hv | rfl
    · exact updK (by omega) (.inl (by omega))
    · exact updK (fun e => hj e.symm) (.inr (d.nfj d.mj))
  · by_cases e : v = q
    · subst e
      rcases hvf with hvf | hvf
      · omega
      · rw [hq] at hvf; exact absurd rfl hvf
    · exact updK e (hvf.imp_left fun h => by omega)
end
end Go.Proofs.Ythoicdnlcnppgaa.Fn
