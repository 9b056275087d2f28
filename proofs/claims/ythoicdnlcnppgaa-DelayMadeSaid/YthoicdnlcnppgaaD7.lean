/- Contracts: Check. Conditions: none. -/
import Derived.Test.YthoicdnlcnppgaaD6
set_option linter.unusedVariables false
set_option linter.unusedSimpArgs false
namespace Go.Proofs.Ythoicdnlcnppgaa.Fn
open Go Go.Am
set_option maxRecDepth 100000
set_option maxHeartbeats 1000000
def okV (n : Int) (x : Wt) : Prop := inW n x ∧ x.f ≠ x.t ∧ withinS x.mn = true ∧ (x.ms = -1 ∨ withinS x.ms = true)
def okQ (n : Int) (x : Pr) : Prop := 0 ≤ x.m ∧ x.m < n ∧ withinS x.s = true
structure Valid (m : List Mom) (w : List Wt) (p : List Pr) : Prop where
  ml : m.length ≤ 64
  wl : w.length ≤ 200
  pl : p.length ≤ 64
  mm : ∀ x ∈ m, withinS x.t = true
  ww : ∀ x ∈ w, okV m.length x
  pp : ∀ x ∈ p, okQ m.length x
  pd : (p.map Pr.m).Nodup
  s : ∃ r, SortQ m.length w r ∧ r.length = m.length
theorem SortQ.sub {n : Nat} {w : List Wt} {r r' : List Int} (a : SortQ n w r) (b : SortQ n w r') : ∀ v ∈ r', v ∈ r := by
  have H : ∀ j, j ≤ r'.length → ∀ v ∈ r'.take j, v ∈ r := by
    intro j
    induction j with
    | zero => intro _ v hv; simp at hv
    | succ j ih =>
      intro hj v hv
      rw [List.take_succ_eq_append_getElem (by omega)] at hv
      rcases List.mem_append.1 hv with hv | hv
      · exact ih (by omega) v hv
      · simp at hv
        subst hv
        have h1 := b.rg _ (List.getElem_mem (show j < r'.length by omega))
        exact a.fl _ h1.1 h1.2 fun x hx hxt => ih (by omega) _ (b.tp j (by omega) x hx hxt)
  intro v hv
  exact H r'.length (Nat.le_refl _) v (by rw [List.take_length]; exact hv)
theorem nd_sub : ∀ (r r' : List Int), r'.Nodup → (∀ v ∈ r', v ∈ r) → r'.length ≤ r.length
  | r, [], _, _ => by simp
  | r, a :: l, hn, h => by
    have h1 := List.nodup_cons.1 hn
    have ha := h a (by simp)
    have h2 := nd_sub (r.erase a) l h1.2 fun v hv => by
      have hva : v ≠ a := fun e => h1.1 (e ▸ hv)
      exact (List.mem_erase_of_ne hva).2 (h v (by simp [hv]))
    rw [List.length_erase, if_pos ha] at h2
    have : 0 < r.length := List.length_pos_of_mem ha
    simp; omega
theorem SortQ.len_eq {n : Nat} {w : List Wt} {r r' : List Int} (a : SortQ n w r) (b : SortQ n w r') : r.length = r'.length :=
  Nat.le_antisymm (nd_sub _ _ a.nd (b.sub a)) (nd_sub _ _ b.nd (a.sub b))
def kvP (l : List Pr) : List (AV × AV) := l.map fun x => (.one (.int .i64 x.m), .one (.bool true))
theorem mfind_kvP (l : List Pr) (v : Int) : mfind (kvP l) (.one (.int .i64 v)) = if v ∈ l.map Pr.m then some (.one (.bool true)) else none := by
  induction l with
  | nil => rfl
  | cons x l ih =>
    by_cases e : x.m = v
    · subst e; simp [mfind, kvP]
    · have e' : ¬ v = x.m := fun h => e h.symm
      simp only [mfind, kvP, List.map_cons, List.find?_cons] at ih ⊢
      simp [e, e'] at ih ⊢
      exact ih
theorem k22 (xm xw xp : Cell) (m : List Mom) (w : List Wt) (p : List Pr) (h : AH) (vm : View h.o h.nx xm enM m) (vw : View h.o h.nx xw enW w) (vp : View h.o h.nx xp enPr p)
    (hm : m.length < 9223372036854775807) (hw : w.length < 9223372036854775807) (hp : p.length < 9223372036854775807) :
    wF fs out 22 [.v (.one xm), .v (.one xw), .v (.one xp)] h fun r h' => ∃ b, r = .v (.one (.bool b)) ∧ (b = true ↔ Valid m w p) ∧ h.le h' := by
  refine wF_fn fs22 rfl fun Q hQ => ?_
  have lenm := vm.lenV (fs := fs) (out := out)
  have lenw := vw.lenV (fs := fs) (out := out)
  have lenp := vp.lenV (fs := fs) (out := out)
  have bad : ∀ (t : Nat → T) (g : AH), ¬ Valid m w p → h.le g → t 6 = .v (.one (.bool false)) → Q .ret ⟨t, g⟩ := by
    intro t g hb hl t6
    exact hQ _ _ _ (.inr rfl) (by simp only [resc, resv, List.mapM_cons, List.mapM_nil, t6, a22]) ⟨false, rfl, by simp [hb], hl⟩
  refine s22_0 ?_
  (try simp -implicitDefEqProofs (disch := constructor; omega) [↓h22_1, lenm, lenw, lenp])
  refine s22_2 ?_
  refine s22_3 ?_
  by_cases n0 : ¬ (m.length : Int) ≤ 64
  · (try simp -implicitDefEqProofs (disch := constructor; omega) [↓h22_4, ↓w22_4_1, ↓h22_4_1g, ↓h22_4_2, ↓w22_4_3, ↓h22_4_3g, ↓h22_4_4, lenm, lenw, lenp, eq_false n0])
    refine s22_5 ?_
    (try simp -implicitDefEqProofs (disch := constructor; omega) [lenm, lenw, lenp])
    refine s22_6 ?_
    simp -implicitDefEqProofs (disch := constructor; omega) [↓h22_7, lenm, lenw, lenp]
    exact bad _ _ (fun hg => by have := hg.ml; omega) (AH.le_mk (by omega) fun _ _ => rfl) (by simp -implicitDefEqProofs (disch := constructor; omega) [lenm, lenw, lenp])
  · replace n0 := Classical.not_not.1 n0
    by_cases n1 : ¬ (w.length : Int) ≤ 200
    · (try simp -implicitDefEqProofs (disch := constructor; omega) [↓h22_4, ↓w22_4_1, ↓h22_4_1g, ↓h22_4_2, ↓w22_4_3, ↓h22_4_3g, ↓h22_4_4, lenm, lenw, lenp, n0, eq_false n1])
      refine s22_5 ?_
      (try simp -implicitDefEqProofs (disch := constructor; omega) [lenm, lenw, lenp])
      refine s22_6 ?_
      simp -implicitDefEqProofs (disch := constructor; omega) [↓h22_7, lenm, lenw, lenp]
      exact bad _ _ (fun hg => by have := hg.wl; omega) (AH.le_mk (by omega) fun _ _ => rfl) (by simp -implicitDefEqProofs (disch := constructor; omega) [lenm, lenw, lenp])
    · replace n1 := Classical.not_not.1 n1
      by_cases n2 : ¬ (p.length : Int) ≤ 64
      · have n3 : (64 : Int) < p.length := by omega
        (try simp -implicitDefEqProofs (disch := constructor; omega) [↓h22_4, ↓w22_4_1, ↓h22_4_1g, ↓h22_4_2, ↓w22_4_3, ↓h22_4_3g, ↓h22_4_4, lenm, lenw, lenp, n0, n1, n3])
        refine s22_5 ?_
        (try simp -implicitDefEqProofs (disch := constructor; omega) [lenm, lenw, lenp, n3])
        refine s22_6 ?_
        simp -implicitDefEqProofs (disch := constructor; omega) [↓h22_7, lenm, lenw, lenp]
        exact bad _ _ (fun hg => by have := hg.pl; omega) (AH.le_mk (by omega) fun _ _ => rfl) (by simp -implicitDefEqProofs (disch := constructor; omega) [lenm, lenw, lenp])
      · replace n2 := Classical.not_not.1 n2
        have n3 : ((64 : Int) < p.length) = False := eq_false (by omega)
        (try simp -implicitDefEqProofs (disch := constructor; omega) [↓h22_4, ↓w22_4_1, ↓h22_4_1g, ↓h22_4_2, ↓w22_4_3, ↓h22_4_3g, ↓h22_4_4, lenm, lenw, lenp, n0, n1, n3])
        refine s22_5 ?_
        (try simp -implicitDefEqProofs (disch := constructor; omega) [lenm, lenw, lenp, n3])
        refine s22_8 ?_
        refine s22_9 ?_
        simp -implicitDefEqProofs (disch := constructor; omega) [↓h22_10, lenm, lenw, lenp]
        refine s22_11 ?_
        refine s22_12 (fun k s => ∃ i : Nat, i + k = m.length ∧ s.t 0 = .v (.one xm) ∧ s.t 1 = .v (.one xw) ∧ s.t 2 = .v (.one xp) ∧ s.t 29 = .v (.one xm) ∧ s.t 30 = .v (.one (.int .i64 m.length)) ∧ s.t 31 = .v (.one (.int .i64 i)) ∧
          h.le s.h ∧ ∀ x ∈ m.take i, withinS x.t = true) m.length ?_ ?_
        · exact ⟨0, by omega, by simp -implicitDefEqProofs (disch := constructor; omega) [lenm, lenw, lenp], by simp -implicitDefEqProofs (disch := constructor; omega) [lenm, lenw, lenp], by simp -implicitDefEqProofs (disch := constructor; omega) [lenm, lenw, lenp], by simp -implicitDefEqProofs (disch := constructor; omega) [lenm, lenw, lenp], by simp -implicitDefEqProofs (disch := constructor; omega) [lenm, lenw, lenp], by simp -implicitDefEqProofs (disch := constructor; omega) [lenm, lenw, lenp], AH.le_mk (by omega) fun _ _ => rfl, by simp⟩
        · rintro k s Q2 ⟨i, hk, t0, t1, t2, t29, t30, t31, ⟨hn, ho⟩, hv⟩ hN hE hR
          refine s22_13 ?_
          simp -implicitDefEqProofs (disch := constructor; omega) [↓h22_14, lenm, lenw, lenp, t0, t1, t2, t29, t30, t31]
          refine s22_15 ?_
          simp -implicitDefEqProofs (disch := constructor; omega) [lenm, lenw, lenp, t0, t1, t2, t29, t30, t31]
          split
          · rename_i hi
            obtain ⟨j, f, ro, e, wd, cs, rfl, hj, hcs, hl1, hg1, hg2, hg3⟩ := vm.get enM_len hi
            have hcs' := (ho j hj).trans hcs
            obtain ⟨a, hae⟩ : ∃ a, a = m[i] := ⟨_, rfl⟩
            rw [← hae] at hg2 hg1 hg3
            have hmem : a ∈ m := by rw [hae]; exact List.getElem_mem hi
            have w1 := wrap64 (show -9223372036854775808 ≤ (i : Int) + 1 by omega) (by omega)
            refine s22_17 ?_
            refine s22_18 ?_
            refine s22_19 ?_
            simp -implicitDefEqProofs (disch := constructor; omega) [↓h22_20, lenw, lenp, t0, t1, t2, t29, t30, t31, hi, hl1, hcs', hg2, enM, w1]
            refine s22_21 ?_
            simp -implicitDefEqProofs (disch := constructor; omega) [↓h22_22, ↓h22_22_1, lenw, lenp, t0, t1, t2, t29, t30, t31, hi, hl1, hcs', hg2, enM, w1]
            refine wF_mono (k31 a.t _) ?_
            rintro _ h3 ⟨rfl, hn3, ho3⟩
            (try dsimp only at hn3 ho3)
            (try simp -implicitDefEqProofs (disch := constructor; omega) [↓h22_22, ↓h22_22_1, lenw, lenp, t0, t1, t2, t29, t30, t31, hi, hl1, hcs', hg2, enM, w1])
            have low3 : ∀ i, i < h.nx → h3.o i = h.o i := fun i hi => by
              rw [ho3 i (by omega)]; simp -implicitDefEqProofs (disch := constructor; omega) [lenw, lenp, t0, t1, t2, t29, t30, t31, hi, hl1, hcs', hg2, enM, w1]; exact ho i hi
            by_cases hb : withinS a.t = true
            · refine s22_23 ?_
              simp -implicitDefEqProofs (disch := constructor; omega) [lenw, lenp, t0, t1, t2, t29, t30, t31, hi, hl1, hcs', hg2, enM, w1, hb]
              refine s22_26 ?_
              simp -implicitDefEqProofs (disch := constructor; omega) [↓h22_26, lenw, lenp, t0, t1, t2, t29, t30, t31, hi, hl1, hcs', hg2, enM, w1]
              refine hN (k - 1) _ (by omega) ?_
              dsimp only [keepOnly_eq]
              refine ⟨i + 1, by omega, by simp -implicitDefEqProofs (disch := constructor; omega) [lenw, lenp, t0, t1, t2, t29, t30, t31, hi, hl1, hcs', hg2, enM, w1], by simp -implicitDefEqProofs (disch := constructor; omega) [lenw, lenp, t0, t1, t2, t29, t30, t31, hi, hl1, hcs', hg2, enM, w1], by simp -implicitDefEqProofs (disch := constructor; omega) [lenw, lenp, t0, t1, t2, t29, t30, t31, hi, hl1, hcs', hg2, enM, w1], by simp -implicitDefEqProofs (disch := constructor; omega) [lenw, lenp, t0, t1, t2, t29, t30, t31, hi, hl1, hcs', hg2, enM, w1], by simp -implicitDefEqProofs (disch := constructor; omega) [lenw, lenp, t0, t1, t2, t29, t30, t31, hi, hl1, hcs', hg2, enM, w1], by simp -implicitDefEqProofs (disch := constructor; omega) [lenw, lenp, t0, t1, t2, t29, t30, t31, hi, hl1, hcs', hg2, enM, w1], AH.le_mk (by (try dsimp only [keepOnly_eq]); omega) low3, ?_⟩
              intro x hx
              rw [List.take_succ_eq_append_getElem hi, ← hae] at hx
              rcases List.mem_append.1 hx with hx | hx
              · exact hv x hx
              · simp at hx; subst hx; exact hb
            · have hb2 : withinS a.t = false := by simpa using hb
              refine s22_23 ?_
              simp -implicitDefEqProofs (disch := constructor; omega) [lenw, lenp, t0, t1, t2, t29, t30, t31, hi, hl1, hcs', hg2, enM, w1, hb2]
              refine s22_24 ?_
              simp -implicitDefEqProofs (disch := constructor; omega) [↓h22_25, lenw, lenp, t0, t1, t2, t29, t30, t31, hi, hl1, hcs', hg2, enM, w1]
              refine hR _ ?_
              (try simp -implicitDefEqProofs (disch := constructor; omega) [lenw, lenp, t0, t1, t2, t29, t30, t31, hi, hl1, hcs', hg2, enM, w1])
              exact bad _ _ (fun hg => hb (hg.mm a hmem)) (AH.le_mk (by omega) low3) (by simp -implicitDefEqProofs (disch := constructor; omega) [lenw, lenp, t0, t1, t2, t29, t30, t31, hi, hl1, hcs', hg2, enM, w1])
          · rename_i hi
            have hil : i = m.length := by omega
            subst hil
            rw [List.take_length] at hv
            refine hE 0 _ ?_
            (try simp -implicitDefEqProofs (disch := constructor; omega) [lenm, lenw, lenp, t0, t1, t2, t29, t30, t31])
            refine s22_27 ?_
            refine s22_28 ?_
            simp -implicitDefEqProofs (disch := constructor; omega) [↓h22_29, lenm, lenw, lenp, t0, t1, t2, t29, t30, t31]
            refine s22_30 ?_
            clear hE hN hR
            have hvm := hv
            clear hv t29 t30 t31
            refine s22_31 (fun k s => ∃ i : Nat, i + k = w.length ∧ s.t 0 = .v (.one xm) ∧ s.t 1 = .v (.one xw) ∧ s.t 2 = .v (.one xp) ∧ s.t 40 = .v (.one xw) ∧ s.t 41 = .v (.one (.int .i64 w.length)) ∧ s.t 42 = .v (.one (.int .i64 i)) ∧ h.le s.h ∧ ∀ x ∈ w.take i, okV m.length x) w.length ?_ ?_
            · exact ⟨0, by omega, by simp -implicitDefEqProofs (disch := constructor; omega) [lenm, lenw, lenp, t0, t1, t2, t29, t30, t31], by simp -implicitDefEqProofs (disch := constructor; omega) [lenm, lenw, lenp, t0, t1, t2, t29, t30, t31], by simp -implicitDefEqProofs (disch := constructor; omega) [lenm, lenw, lenp, t0, t1, t2, t29, t30, t31], by simp -implicitDefEqProofs (disch := constructor; omega) [lenm, lenw, lenp, t0, t1, t2, t29, t30, t31], by simp -implicitDefEqProofs (disch := constructor; omega) [lenm, lenw, lenp, t0, t1, t2, t29, t30, t31], by simp -implicitDefEqProofs (disch := constructor; omega) [lenm, lenw, lenp, t0, t1, t2, t29, t30, t31], AH.le_mk (by (try dsimp only [keepOnly_eq]); omega) ho, by simp⟩
            · clear hn ho t0 t1 t2
              rintro k s Q2 ⟨i, hk, t0, t1, t2, t40, t41, t42, ⟨hn, ho⟩, hv⟩ hN hE hR
              refine s22_32 ?_
              simp -implicitDefEqProofs (disch := constructor; omega) [↓h22_33, lenm, lenw, lenp, t0, t1, t2, t40, t41, t42]
              refine s22_34 ?_
              simp -implicitDefEqProofs (disch := constructor; omega) [lenm, lenw, lenp, t0, t1, t2, t40, t41, t42]
              split
              · rename_i hi
                obtain ⟨j, f, ro, e, wd, cs, rfl, hj, hcs, hl1, hg1, hg2, hg3⟩ := vw.get enW_len hi
                have hcs' := (ho j hj).trans hcs
                obtain ⟨a, hae⟩ : ∃ a, a = w[i] := ⟨_, rfl⟩
                rw [← hae] at hg2 hg1 hg3
                have hmem : a ∈ w := by rw [hae]; exact List.getElem_mem hi
                have w1 := wrap64 (show -9223372036854775808 ≤ (i : Int) + 1 by omega) (by omega)
                have badw : ∀ (t : Nat → T) (g : AH), ¬ okV m.length a → h.le g → t 6 = .v (.one (.bool false)) → Q2 .ret ⟨t, g⟩ := by
                  intro t g hb hl t6
                  refine hR _ ?_
                  (try simp -implicitDefEqProofs (disch := constructor; omega) [lenm, lenw, lenp, t0, t1, t2, t40, t41, t42])
                  exact bad t g (fun hg => hb (hg.ww a hmem)) hl t6
                refine s22_36 ?_
                refine s22_37 ?_
                refine s22_38 ?_
                (try simp -implicitDefEqProofs (disch := constructor; omega) [↓h22_39, lenm, lenp, t0, t1, t2, t40, t41, t42, hi, hl1, hcs', hg2, enW, w1])
                refine s22_40 ?_
                by_cases c0 : a.f < 0
                · (try simp -implicitDefEqProofs (disch := constructor; omega) [↓h22_41, ↓w22_41_1, ↓h22_41_1g, ↓h22_41_2, ↓w22_41_3, ↓h22_41_3g, ↓h22_41_4, ↓w22_41_5, ↓h22_41_5g, ↓h22_41_6, ↓w22_41_7, ↓h22_41_7g, ↓h22_41_8, ↓w22_41_9, ↓h22_41_9g, ↓h22_41_9g_1, ↓h22_41_10, ↓w22_41_11, ↓h22_41_11g, ↓w22_41_12, ↓h22_41_12g, ↓h22_41_12g_1, ↓w22_41_13, ↓h22_41_13g, ↓h22_41_14, lenm, lenp, t0, t1, t2, t40, t41, t42, hi, hl1, hcs', hg2, enW, w1, c0])
                  refine s22_42 ?_
                  simp -implicitDefEqProofs (disch := constructor; omega) [lenm, lenp, t0, t1, t2, t40, t41, t42, hi, hl1, hcs', hg2, enW, w1]
                  refine s22_43 ?_
                  simp -implicitDefEqProofs (disch := constructor; omega) [↓h22_44, lenm, lenp, t0, t1, t2, t40, t41, t42, hi, hl1, hcs', hg2, enW, w1]
                  exact badw _ _ (fun hg => by have := hg; unfold okV inW at this; omega) (AH.le_mk (by (try dsimp only [keepOnly_eq]); omega) fun k hk => by simp -implicitDefEqProofs (disch := constructor; omega) [lenm, lenp, t0, t1, t2, t40, t41, t42, hi, hl1, hcs', hg2, enW, w1]; exact ho k hk) (by simp -implicitDefEqProofs (disch := constructor; omega) [lenm, lenp, t0, t1, t2, t40, t41, t42, hi, hl1, hcs', hg2, enW, w1])
                · have d0 := eq_false c0
                  by_cases c1 : (m.length : Int) ≤ a.f
                  · (try simp -implicitDefEqProofs (disch := constructor; omega) [↓h22_41, ↓w22_41_1, ↓h22_41_1g, ↓h22_41_2, ↓w22_41_3, ↓h22_41_3g, ↓h22_41_4, ↓w22_41_5, ↓h22_41_5g, ↓h22_41_6, ↓w22_41_7, ↓h22_41_7g, ↓h22_41_8, ↓w22_41_9, ↓h22_41_9g, ↓h22_41_9g_1, ↓h22_41_10, ↓w22_41_11, ↓h22_41_11g, ↓w22_41_12, ↓h22_41_12g, ↓h22_41_12g_1, ↓w22_41_13, ↓h22_41_13g, ↓h22_41_14, lenm, lenp, t0, t1, t2, t40, t41, t42, hi, hl1, hcs', hg2, enW, w1, d0, c1])
                    refine s22_42 ?_
                    simp -implicitDefEqProofs (disch := constructor; omega) [lenm, lenp, t0, t1, t2, t40, t41, t42, hi, hl1, hcs', hg2, enW, w1]
                    refine s22_43 ?_
                    simp -implicitDefEqProofs (disch := constructor; omega) [↓h22_44, lenm, lenp, t0, t1, t2, t40, t41, t42, hi, hl1, hcs', hg2, enW, w1]
                    exact badw _ _ (fun hg => by have := hg; unfold okV inW at this; omega) (AH.le_mk (by (try dsimp only [keepOnly_eq]); omega) fun k hk => by simp -implicitDefEqProofs (disch := constructor; omega) [lenm, lenp, t0, t1, t2, t40, t41, t42, hi, hl1, hcs', hg2, enW, w1]; exact ho k hk) (by simp -implicitDefEqProofs (disch := constructor; omega) [lenm, lenp, t0, t1, t2, t40, t41, t42, hi, hl1, hcs', hg2, enW, w1])
                  · have d1 := eq_false c1
                    by_cases c2 : a.t < 0
                    · (try simp -implicitDefEqProofs (disch := constructor; omega) [↓h22_41, ↓w22_41_1, ↓h22_41_1g, ↓h22_41_2, ↓w22_41_3, ↓h22_41_3g, ↓h22_41_4, ↓w22_41_5, ↓h22_41_5g, ↓h22_41_6, ↓w22_41_7, ↓h22_41_7g, ↓h22_41_8, ↓w22_41_9, ↓h22_41_9g, ↓h22_41_9g_1, ↓h22_41_10, ↓w22_41_11, ↓h22_41_11g, ↓w22_41_12, ↓h22_41_12g, ↓h22_41_12g_1, ↓w22_41_13, ↓h22_41_13g, ↓h22_41_14, lenm, lenp, t0, t1, t2, t40, t41, t42, hi, hl1, hcs', hg2, enW, w1, d0, d1, c2])
                      refine s22_42 ?_
                      simp -implicitDefEqProofs (disch := constructor; omega) [lenm, lenp, t0, t1, t2, t40, t41, t42, hi, hl1, hcs', hg2, enW, w1]
                      refine s22_43 ?_
                      simp -implicitDefEqProofs (disch := constructor; omega) [↓h22_44, lenm, lenp, t0, t1, t2, t40, t41, t42, hi, hl1, hcs', hg2, enW, w1]
                      exact badw _ _ (fun hg => by have := hg; unfold okV inW at this; omega) (AH.le_mk (by (try dsimp only [keepOnly_eq]); omega) fun k hk => by simp -implicitDefEqProofs (disch := constructor; omega) [lenm, lenp, t0, t1, t2, t40, t41, t42, hi, hl1, hcs', hg2, enW, w1]; exact ho k hk) (by simp -implicitDefEqProofs (disch := constructor; omega) [lenm, lenp, t0, t1, t2, t40, t41, t42, hi, hl1, hcs', hg2, enW, w1])
                    · have d2 := eq_false c2
                      by_cases c3 : (m.length : Int) ≤ a.t
                      · (try simp -implicitDefEqProofs (disch := constructor; omega) [↓h22_41, ↓w22_41_1, ↓h22_41_1g, ↓h22_41_2, ↓w22_41_3, ↓h22_41_3g, ↓h22_41_4, ↓w22_41_5, ↓h22_41_5g, ↓h22_41_6, ↓w22_41_7, ↓h22_41_7g, ↓h22_41_8, ↓w22_41_9, ↓h22_41_9g, ↓h22_41_9g_1, ↓h22_41_10, ↓w22_41_11, ↓h22_41_11g, ↓w22_41_12, ↓h22_41_12g, ↓h22_41_12g_1, ↓w22_41_13, ↓h22_41_13g, ↓h22_41_14, lenm, lenp, t0, t1, t2, t40, t41, t42, hi, hl1, hcs', hg2, enW, w1, d0, d1, d2, c3])
                        refine s22_42 ?_
                        simp -implicitDefEqProofs (disch := constructor; omega) [lenm, lenp, t0, t1, t2, t40, t41, t42, hi, hl1, hcs', hg2, enW, w1]
                        refine s22_43 ?_
                        simp -implicitDefEqProofs (disch := constructor; omega) [↓h22_44, lenm, lenp, t0, t1, t2, t40, t41, t42, hi, hl1, hcs', hg2, enW, w1]
                        exact badw _ _ (fun hg => by have := hg; unfold okV inW at this; omega) (AH.le_mk (by (try dsimp only [keepOnly_eq]); omega) fun k hk => by simp -implicitDefEqProofs (disch := constructor; omega) [lenm, lenp, t0, t1, t2, t40, t41, t42, hi, hl1, hcs', hg2, enW, w1]; exact ho k hk) (by simp -implicitDefEqProofs (disch := constructor; omega) [lenm, lenp, t0, t1, t2, t40, t41, t42, hi, hl1, hcs', hg2, enW, w1])
                      · have d3 := eq_false c3
                        by_cases c4 : a.f = a.t
                        · (try simp -implicitDefEqProofs (disch := constructor; omega) [↓h22_41, ↓w22_41_1, ↓h22_41_1g, ↓h22_41_2, ↓w22_41_3, ↓h22_41_3g, ↓h22_41_4, ↓w22_41_5, ↓h22_41_5g, ↓h22_41_6, ↓w22_41_7, ↓h22_41_7g, ↓h22_41_8, ↓w22_41_9, ↓h22_41_9g, ↓h22_41_9g_1, ↓h22_41_10, ↓w22_41_11, ↓h22_41_11g, ↓w22_41_12, ↓h22_41_12g, ↓h22_41_12g_1, ↓w22_41_13, ↓h22_41_13g, ↓h22_41_14, lenm, lenp, t0, t1, t2, t40, t41, t42, hi, hl1, hcs', hg2, enW, w1, d0, d1, d2, d3, c4])
                          refine s22_42 ?_
                          simp -implicitDefEqProofs (disch := constructor; omega) [lenm, lenp, t0, t1, t2, t40, t41, t42, hi, hl1, hcs', hg2, enW, w1]
                          refine s22_43 ?_
                          simp -implicitDefEqProofs (disch := constructor; omega) [↓h22_44, lenm, lenp, t0, t1, t2, t40, t41, t42, hi, hl1, hcs', hg2, enW, w1]
                          exact badw _ _ (fun hg => by have := hg; unfold okV inW at this; omega) (AH.le_mk (by (try dsimp only [keepOnly_eq]); omega) fun k hk => by simp -implicitDefEqProofs (disch := constructor; omega) [lenm, lenp, t0, t1, t2, t40, t41, t42, hi, hl1, hcs', hg2, enW, w1]; exact ho k hk) (by simp -implicitDefEqProofs (disch := constructor; omega) [lenm, lenp, t0, t1, t2, t40, t41, t42, hi, hl1, hcs', hg2, enW, w1])
                        · have d4 := eq_false c4
                          (try simp -implicitDefEqProofs (disch := constructor; omega) [↓h22_41, ↓w22_41_1, ↓h22_41_1g, ↓h22_41_2, ↓w22_41_3, ↓h22_41_3g, ↓h22_41_4, ↓w22_41_5, ↓h22_41_5g, ↓h22_41_6, ↓w22_41_7, ↓h22_41_7g, ↓h22_41_8, ↓w22_41_9, ↓h22_41_9g, ↓h22_41_9g_1, ↓h22_41_10, ↓w22_41_11, ↓h22_41_11g, ↓w22_41_12, ↓h22_41_12g, ↓h22_41_12g_1, ↓w22_41_13, ↓h22_41_13g, ↓h22_41_14, lenm, lenp, t0, t1, t2, t40, t41, t42, hi, hl1, hcs', hg2, enW, w1, d0, d1, d2, d3, d4])
                          refine wF_mono (k31 a.mn _) ?_
                          rintro _ h5 ⟨rfl, hn5, ho5⟩
                          (try dsimp only at hn5 ho5)
                          have hb5 : h5.o (s.h.nx + 1 + 2) = some (.cells (s.h.nx + 1 + 2) false 35 0 [.int .i64 a.f, .int .i64 a.t, .int .i64 a.mn, .int .i64 a.ms]) := by
                            rw [ho5 _ (by omega)]
                            (try simp -implicitDefEqProofs (disch := constructor; omega) [lenm, lenp, t0, t1, t2, t40, t41, t42, hi, hl1, hcs', hg2, enW, w1])
                          have low5 : ∀ i, i < h.nx → h5.o i = h.o i := fun i hi => by
                            rw [ho5 i (by omega)]; simp -implicitDefEqProofs (disch := constructor; omega) [lenm, lenp, t0, t1, t2, t40, t41, t42, hi, hl1, hcs', hg2, enW, w1]; exact ho i hi
                          by_cases m5 : withinS a.mn = true
                          · by_cases c6 : a.ms = -1
                            · (try simp -implicitDefEqProofs (disch := constructor; omega) [↓h22_41, ↓w22_41_1, ↓h22_41_1g, ↓h22_41_2, ↓w22_41_3, ↓h22_41_3g, ↓h22_41_4, ↓w22_41_5, ↓h22_41_5g, ↓h22_41_6, ↓w22_41_7, ↓h22_41_7g, ↓h22_41_8, ↓w22_41_9, ↓h22_41_9g, ↓h22_41_9g_1, ↓h22_41_10, ↓w22_41_11, ↓h22_41_11g, ↓w22_41_12, ↓h22_41_12g, ↓h22_41_12g_1, ↓w22_41_13, ↓h22_41_13g, ↓h22_41_14, lenm, lenp, t0, t1, t2, t40, t41, t42, hi, hl1, hcs', hg2, enW, w1, m5, hb5, c6])
                              refine s22_42 ?_
                              simp -implicitDefEqProofs (disch := constructor; omega) [lenm, lenp, t0, t1, t2, t40, t41, t42, hi, hl1, hcs', hg2, enW, w1]
                              refine s22_45 ?_
                              simp -implicitDefEqProofs (disch := constructor; omega) [↓h22_45, lenm, lenp, t0, t1, t2, t40, t41, t42, hi, hl1, hcs', hg2, enW, w1]
                              refine hN (k - 1) _ (by omega) ?_
                              dsimp only [keepOnly_eq]
                              refine ⟨i + 1, by omega, by simp -implicitDefEqProofs (disch := constructor; omega) [lenm, lenp, t0, t1, t2, t40, t41, t42, hi, hl1, hcs', hg2, enW, w1], by simp -implicitDefEqProofs (disch := constructor; omega) [lenm, lenp, t0, t1, t2, t40, t41, t42, hi, hl1, hcs', hg2, enW, w1], by simp -implicitDefEqProofs (disch := constructor; omega) [lenm, lenp, t0, t1, t2, t40, t41, t42, hi, hl1, hcs', hg2, enW, w1], by simp -implicitDefEqProofs (disch := constructor; omega) [lenm, lenp, t0, t1, t2, t40, t41, t42, hi, hl1, hcs', hg2, enW, w1], by simp -implicitDefEqProofs (disch := constructor; omega) [lenm, lenp, t0, t1, t2, t40, t41, t42, hi, hl1, hcs', hg2, enW, w1], by simp -implicitDefEqProofs (disch := constructor; omega) [lenm, lenp, t0, t1, t2, t40, t41, t42, hi, hl1, hcs', hg2, enW, w1], AH.le_mk (by (try dsimp only [keepOnly_eq]); omega) low5, ?_⟩
                              intro x hx
                              rw [List.take_succ_eq_append_getElem hi, ← hae] at hx
                              rcases List.mem_append.1 hx with hx | hx
                              · exact hv x hx
                              · simp at hx; subst hx; exact ⟨⟨by omega, by omega, by omega, by omega⟩, c4, m5, .inl c6⟩
                            · have d6 := eq_false c6
                              (try simp -implicitDefEqProofs (disch := constructor; omega) [↓h22_41, ↓w22_41_1, ↓h22_41_1g, ↓h22_41_2, ↓w22_41_3, ↓h22_41_3g, ↓h22_41_4, ↓w22_41_5, ↓h22_41_5g, ↓h22_41_6, ↓w22_41_7, ↓h22_41_7g, ↓h22_41_8, ↓w22_41_9, ↓h22_41_9g, ↓h22_41_9g_1, ↓h22_41_10, ↓w22_41_11, ↓h22_41_11g, ↓w22_41_12, ↓h22_41_12g, ↓h22_41_12g_1, ↓w22_41_13, ↓h22_41_13g, ↓h22_41_14, lenm, lenp, t0, t1, t2, t40, t41, t42, hi, hl1, hcs', hg2, enW, w1, m5, hb5, d6])
                              refine wF_mono (k31 a.ms _) ?_
                              rintro _ h6 ⟨rfl, hn6, ho6⟩
                              (try dsimp only at hn6 ho6)
                              have low6 : ∀ i, i < h.nx → h6.o i = h.o i := fun i hi => by
                                rw [ho6 i (by omega)]; exact low5 i hi
                              by_cases m6 : withinS a.ms = true
                              · (try simp -implicitDefEqProofs (disch := constructor; omega) [↓h22_41, ↓w22_41_1, ↓h22_41_1g, ↓h22_41_2, ↓w22_41_3, ↓h22_41_3g, ↓h22_41_4, ↓w22_41_5, ↓h22_41_5g, ↓h22_41_6, ↓w22_41_7, ↓h22_41_7g, ↓h22_41_8, ↓w22_41_9, ↓h22_41_9g, ↓h22_41_9g_1, ↓h22_41_10, ↓w22_41_11, ↓h22_41_11g, ↓w22_41_12, ↓h22_41_12g, ↓h22_41_12g_1, ↓w22_41_13, ↓h22_41_13g, ↓h22_41_14, lenm, lenp, t0, t1, t2, t40, t41, t42, hi, hl1, hcs', hg2, enW, w1, m6])
                                refine s22_42 ?_
                                simp -implicitDefEqProofs (disch := constructor; omega) [lenm, lenp, t0, t1, t2, t40, t41, t42, hi, hl1, hcs', hg2, enW, w1]
                                refine s22_45 ?_
                                simp -implicitDefEqProofs (disch := constructor; omega) [↓h22_45, lenm, lenp, t0, t1, t2, t40, t41, t42, hi, hl1, hcs', hg2, enW, w1]
                                refine hN (k - 1) _ (by omega) ?_
                                dsimp only [keepOnly_eq]
                                refine ⟨i + 1, by omega, by simp -implicitDefEqProofs (disch := constructor; omega) [lenm, lenp, t0, t1, t2, t40, t41, t42, hi, hl1, hcs', hg2, enW, w1], by simp -implicitDefEqProofs (disch := constructor; omega) [lenm, lenp, t0, t1, t2, t40, t41, t42, hi, hl1, hcs', hg2, enW, w1], by simp -implicitDefEqProofs (disch := constructor; omega) [lenm, lenp, t0, t1, t2, t40, t41, t42, hi, hl1, hcs', hg2, enW, w1], by simp -implicitDefEqProofs (disch := constructor; omega) [lenm, lenp, t0, t1, t2, t40, t41, t42, hi, hl1, hcs', hg2, enW, w1], by simp -implicitDefEqProofs (disch := constructor; omega) [lenm, lenp, t0, t1, t2, t40, t41, t42, hi, hl1, hcs', hg2, enW, w1], by simp -implicitDefEqProofs (disch := constructor; omega) [lenm, lenp, t0, t1, t2, t40, t41, t42, hi, hl1, hcs', hg2, enW, w1], AH.le_mk (by (try dsimp only [keepOnly_eq]); omega) low6, ?_⟩
                                intro x hx
                                rw [List.take_succ_eq_append_getElem hi, ← hae] at hx
                                rcases List.mem_append.1 hx with hx | hx
                                · exact hv x hx
                                · simp at hx; subst hx; exact ⟨⟨by omega, by omega, by omega, by omega⟩, c4, m5, .inr m6⟩
                              · have m7 : withinS a.ms = false := by simpa using m6
                                (try simp -implicitDefEqProofs (disch := constructor; omega) [↓h22_41, ↓w22_41_1, ↓h22_41_1g, ↓h22_41_2, ↓w22_41_3, ↓h22_41_3g, ↓h22_41_4, ↓w22_41_5, ↓h22_41_5g, ↓h22_41_6, ↓w22_41_7, ↓h22_41_7g, ↓h22_41_8, ↓w22_41_9, ↓h22_41_9g, ↓h22_41_9g_1, ↓h22_41_10, ↓w22_41_11, ↓h22_41_11g, ↓w22_41_12, ↓h22_41_12g, ↓h22_41_12g_1, ↓w22_41_13, ↓h22_41_13g, ↓h22_41_14, lenm, lenp, t0, t1, t2, t40, t41, t42, hi, hl1, hcs', hg2, enW, w1, m7])
                                refine s22_42 ?_
                                simp -implicitDefEqProofs (disch := constructor; omega) [lenm, lenp, t0, t1, t2, t40, t41, t42, hi, hl1, hcs', hg2, enW, w1]
                                refine s22_43 ?_
                                simp -implicitDefEqProofs (disch := constructor; omega) [↓h22_44, lenm, lenp, t0, t1, t2, t40, t41, t42, hi, hl1, hcs', hg2, enW, w1]
                                exact badw _ _ (fun hg => by have h1 := hg.2.2; rcases h1.2 with h1 | h1 <;> contradiction) (AH.le_mk (by (try dsimp only [keepOnly_eq]); omega) low6) (by simp -implicitDefEqProofs (disch := constructor; omega) [lenm, lenp, t0, t1, t2, t40, t41, t42, hi, hl1, hcs', hg2, enW, w1])
                          · have m7 : withinS a.mn = false := by simpa using m5
                            (try simp -implicitDefEqProofs (disch := constructor; omega) [↓h22_41, ↓w22_41_1, ↓h22_41_1g, ↓h22_41_2, ↓w22_41_3, ↓h22_41_3g, ↓h22_41_4, ↓w22_41_5, ↓h22_41_5g, ↓h22_41_6, ↓w22_41_7, ↓h22_41_7g, ↓h22_41_8, ↓w22_41_9, ↓h22_41_9g, ↓h22_41_9g_1, ↓h22_41_10, ↓w22_41_11, ↓h22_41_11g, ↓w22_41_12, ↓h22_41_12g, ↓h22_41_12g_1, ↓w22_41_13, ↓h22_41_13g, ↓h22_41_14, lenm, lenp, t0, t1, t2, t40, t41, t42, hi, hl1, hcs', hg2, enW, w1, m7, hb5])
                            refine s22_42 ?_
                            simp -implicitDefEqProofs (disch := constructor; omega) [lenm, lenp, t0, t1, t2, t40, t41, t42, hi, hl1, hcs', hg2, enW, w1]
                            refine s22_43 ?_
                            simp -implicitDefEqProofs (disch := constructor; omega) [↓h22_44, lenm, lenp, t0, t1, t2, t40, t41, t42, hi, hl1, hcs', hg2, enW, w1]
                            exact badw _ _ (fun hg => by have h1 := hg.2.2; exact m5 h1.1) (AH.le_mk (by (try dsimp only [keepOnly_eq]); omega) low5) (by simp -implicitDefEqProofs (disch := constructor; omega) [lenm, lenp, t0, t1, t2, t40, t41, t42, hi, hl1, hcs', hg2, enW, w1])
              · rename_i hi
                have hil : i = w.length := by omega
                subst hil
                rw [List.take_length] at hv
                refine hE 2 _ ?_
                (try simp -implicitDefEqProofs (disch := constructor; omega) [lenm, lenw, lenp, t0, t1, t2, t40, t41, t42])
                refine s22_46 ?_
                simp -implicitDefEqProofs (disch := constructor; omega) [↓h22_47, lenm, lenw, lenp, t0, t1, t2, t40, t41, t42]
                refine s22_48 ?_
                refine s22_49 ?_
                simp -implicitDefEqProofs (disch := constructor; omega) [↓h22_50, lenm, lenw, lenp, t0, t1, t2, t40, t41, t42]
                refine s22_51 ?_
                clear hE hN hR
                have hvw := hv
                clear hv t40 t41 t42
                obtain ⟨b, hb⟩ : ∃ b, b = s.h.nx + 1 := ⟨_, rfl⟩
                rw [← hb]
                refine s22_52 (fun k s => ∃ i : Nat, i + k = p.length ∧ s.t 0 = .v (.one xm) ∧ s.t 1 = .v (.one xw) ∧ s.t 11 = .v (.one (.map b)) ∧ s.t 94 = .v (.one xp) ∧ s.t 95 = .v (.one (.int .i64 p.length)) ∧ s.t 96 = .v (.one (.int .i64 i)) ∧
                  s.h.o b = some (.map (.int .i64) (kvP (p.take i))) ∧ b < s.h.nx ∧ h.le s.h ∧ (∀ x ∈ p.take i, okQ m.length x) ∧ ((p.take i).map Pr.m).Nodup) p.length ?_ ?_
                · exact ⟨0, by omega, by simp -implicitDefEqProofs (disch := constructor; omega) [lenm, lenw, lenp, t0, t1, t2], by simp -implicitDefEqProofs (disch := constructor; omega) [lenm, lenw, lenp, t0, t1, t2], by simp -implicitDefEqProofs (disch := constructor; omega) [lenm, lenw, lenp, t0, t1, t2], by simp -implicitDefEqProofs (disch := constructor; omega) [lenm, lenw, lenp, t0, t1, t2], by simp -implicitDefEqProofs (disch := constructor; omega) [lenm, lenw, lenp, t0, t1, t2], by simp -implicitDefEqProofs (disch := constructor; omega) [lenm, lenw, lenp, t0, t1, t2], by simp -implicitDefEqProofs (disch := constructor; omega) [lenm, lenw, lenp, t0, t1, t2]; rfl, (by (try dsimp only [keepOnly_eq]); omega), AH.le_mk (by (try dsimp only [keepOnly_eq]); omega) fun i hi => by simp -implicitDefEqProofs (disch := constructor; omega) [lenm, lenw, lenp, t0, t1, t2]; exact ho i hi, by simp, by simp⟩
                · have hbn : h.nx ≤ b := by omega
                  clear hn ho t0 t1 t2 hb
                  rintro k s Q2 ⟨i, hk, t0, t1, t11, t94, t95, t96, hob, hbs, ⟨hn, ho⟩, hv, hnd⟩ hN hE hR
                  refine s22_53 ?_
                  simp -implicitDefEqProofs (disch := constructor; omega) [↓h22_54, lenm, lenw, t0, t1, t11, t94, t95, t96]
                  refine s22_55 ?_
                  simp -implicitDefEqProofs (disch := constructor; omega) [lenm, lenw, t0, t1, t11, t94, t95, t96]
                  split
                  · rename_i hi
                    obtain ⟨j, f, ro, e, wd, cs, rfl, hj, hcs, hl1, hg1, hg2, hg3⟩ := vp.get enPr_len hi
                    have hcs' := (ho j hj).trans hcs
                    obtain ⟨a, hae⟩ : ∃ a, a = p[i] := ⟨_, rfl⟩
                    rw [← hae] at hg2 hg1 hg3
                    have hmem : a ∈ p := by rw [hae]; exact List.getElem_mem hi
                    have w1 := wrap64 (show -9223372036854775808 ≤ (i : Int) + 1 by omega) (by omega)
                    have badw : ∀ (t : Nat → T) (g : AH), ¬ Valid m w p → h.le g → t 6 = .v (.one (.bool false)) → Q2 .ret ⟨t, g⟩ := by
                      intro t g hb hl t6
                      refine hR _ ?_
                      (try simp -implicitDefEqProofs (disch := constructor; omega) [lenm, lenw, t0, t1, t11, t94, t95, t96])
                      exact bad t g hb hl t6
                    have hfit : ∀ v, (Key.int .i64).fits (.one (.int .i64 v)) = true := fun _ => rfl
                    refine s22_57 ?_
                    refine s22_58 ?_
                    refine s22_59 ?_
                    (try simp -implicitDefEqProofs (disch := constructor; omega) [↓h22_60, lenm, t0, t1, t11, t94, t95, t96, hi, hl1, hcs', hg2, enPr, w1, hfit])
                    refine s22_61 ?_
                    refine s22_62 ?_
                    by_cases e0 : a.m < 0
                    · (try simp -implicitDefEqProofs (disch := constructor; omega) [↓h22_63, ↓w22_63_1, ↓h22_63_1g, ↓h22_63_2, ↓w22_63_3, ↓h22_63_3g, ↓h22_63_3g_1, ↓h22_63_4, ↓w22_63_5, ↓h22_63_5g, ↓h22_63_6, lenm, t0, t1, t11, t94, t95, t96, hi, hl1, hcs', hg2, enPr, w1, hfit, e0])
                      refine s22_64 ?_
                      simp -implicitDefEqProofs (disch := constructor; omega) [lenm, t0, t1, t11, t94, t95, t96, hi, hl1, hcs', hg2, enPr, w1, hfit]
                      refine s22_65 ?_
                      simp -implicitDefEqProofs (disch := constructor; omega) [↓h22_66, lenm, t0, t1, t11, t94, t95, t96, hi, hl1, hcs', hg2, enPr, w1, hfit]
                      exact badw _ _ (fun hg => by have := hg.pp a hmem; unfold okQ at this; omega) (AH.le_mk (by (try dsimp only [keepOnly_eq]); omega) fun k hk => by simp -implicitDefEqProofs (disch := constructor; omega) [lenm, t0, t1, t11, t94, t95, t96, hi, hl1, hcs', hg2, enPr, w1, hfit]; exact ho k hk) (by simp -implicitDefEqProofs (disch := constructor; omega) [lenm, t0, t1, t11, t94, t95, t96, hi, hl1, hcs', hg2, enPr, w1, hfit])
                    · have d0 := eq_false e0
                      by_cases e1 : (m.length : Int) ≤ a.m
                      · (try simp -implicitDefEqProofs (disch := constructor; omega) [↓h22_63, ↓w22_63_1, ↓h22_63_1g, ↓h22_63_2, ↓w22_63_3, ↓h22_63_3g, ↓h22_63_3g_1, ↓h22_63_4, ↓w22_63_5, ↓h22_63_5g, ↓h22_63_6, lenm, t0, t1, t11, t94, t95, t96, hi, hl1, hcs', hg2, enPr, w1, hfit, d0, e1])
                        refine s22_64 ?_
                        simp -implicitDefEqProofs (disch := constructor; omega) [lenm, t0, t1, t11, t94, t95, t96, hi, hl1, hcs', hg2, enPr, w1, hfit]
                        refine s22_65 ?_
                        simp -implicitDefEqProofs (disch := constructor; omega) [↓h22_66, lenm, t0, t1, t11, t94, t95, t96, hi, hl1, hcs', hg2, enPr, w1, hfit]
                        exact badw _ _ (fun hg => by have := hg.pp a hmem; unfold okQ at this; omega) (AH.le_mk (by (try dsimp only [keepOnly_eq]); omega) fun k hk => by simp -implicitDefEqProofs (disch := constructor; omega) [lenm, t0, t1, t11, t94, t95, t96, hi, hl1, hcs', hg2, enPr, w1, hfit]; exact ho k hk) (by simp -implicitDefEqProofs (disch := constructor; omega) [lenm, t0, t1, t11, t94, t95, t96, hi, hl1, hcs', hg2, enPr, w1, hfit])
                      · have d1 := eq_false e1
                        (try simp -implicitDefEqProofs (disch := constructor; omega) [↓h22_63, ↓w22_63_1, ↓h22_63_1g, ↓h22_63_2, ↓w22_63_3, ↓h22_63_3g, ↓h22_63_3g_1, ↓h22_63_4, ↓w22_63_5, ↓h22_63_5g, ↓h22_63_6, lenm, t0, t1, t11, t94, t95, t96, hi, hl1, hcs', hg2, enPr, w1, hfit, d0, d1])
                        refine wF_mono (k31 a.s _) ?_
                        rintro _ h5 ⟨rfl, hn5, ho5⟩
                        (try dsimp only at hn5 ho5)
                        have hb5 : h5.o (s.h.nx + 1 + 2) = some (.cells (s.h.nx + 1 + 2) false 39 0 [.int .i64 a.m, .int .i64 a.s]) := by
                          rw [ho5 _ (by omega)]
                          (try simp -implicitDefEqProofs (disch := constructor; omega) [lenm, t0, t1, t11, t94, t95, t96, hi, hl1, hcs', hg2, enPr, w1, hfit])
                        have hm5 : h5.o b = some (.map (.int .i64) (kvP (p.take i))) := by
                          rw [ho5 _ (by omega)]
                          (try simp -implicitDefEqProofs (disch := constructor; omega) [lenm, t0, t1, t11, t94, t95, t96, hi, hl1, hcs', hg2, enPr, w1, hfit, hob])
                        have low5 : ∀ i, i < h.nx → h5.o i = h.o i := fun i hi => by
                          rw [ho5 i (by omega)]; simp -implicitDefEqProofs (disch := constructor; omega) [lenm, t0, t1, t11, t94, t95, t96, hi, hl1, hcs', hg2, enPr, w1, hfit]; exact ho i hi
                        by_cases m5 : withinS a.s = true
                        · by_cases hs : a.m ∈ (p.take i).map Pr.m
                          · have hf : mfind (kvP (p.take i)) (.one (.int .i64 a.m)) = some (.one (.bool true)) := by rw [mfind_kvP, if_pos hs]
                            (try simp -implicitDefEqProofs (disch := constructor; omega) [↓h22_63, ↓w22_63_1, ↓h22_63_1g, ↓h22_63_2, ↓w22_63_3, ↓h22_63_3g, ↓h22_63_3g_1, ↓h22_63_4, ↓w22_63_5, ↓h22_63_5g, ↓h22_63_6, lenm, t0, t1, t11, t94, t95, t96, hi, hl1, hcs', hg2, enPr, w1, hfit, m5, hb5, hm5, hf])
                            refine s22_64 ?_
                            simp -implicitDefEqProofs (disch := constructor; omega) [lenm, t0, t1, t11, t94, t95, t96, hi, hl1, hcs', hg2, enPr, w1, hfit]
                            refine s22_65 ?_
                            simp -implicitDefEqProofs (disch := constructor; omega) [↓h22_66, lenm, t0, t1, t11, t94, t95, t96, hi, hl1, hcs', hg2, enPr, w1, hfit]
                            refine badw _ _ (fun hg => ?_) (AH.le_mk (by (try dsimp only [keepOnly_eq]); omega) low5) (by simp -implicitDefEqProofs (disch := constructor; omega) [lenm, t0, t1, t11, t94, t95, t96, hi, hl1, hcs', hg2, enPr, w1, hfit])
                            have h1 := hg.pd
                            rw [← List.take_append_drop i p, List.drop_eq_getElem_cons hi, ← hae, List.map_append, List.map_cons] at h1
                            exact (List.nodup_append.1 h1).2.2 _ hs _ List.mem_cons_self rfl
                          · have hf : mfind (kvP (p.take i)) (.one (.int .i64 a.m)) = none := by rw [mfind_kvP, if_neg hs]
                            (try simp -implicitDefEqProofs (disch := constructor; omega) [↓h22_63, ↓w22_63_1, ↓h22_63_1g, ↓h22_63_2, ↓w22_63_3, ↓h22_63_3g, ↓h22_63_3g_1, ↓h22_63_4, ↓w22_63_5, ↓h22_63_5g, ↓h22_63_6, lenm, t0, t1, t11, t94, t95, t96, hi, hl1, hcs', hg2, enPr, w1, hfit, m5, hb5, hm5, hf])
                            refine s22_64 ?_
                            simp -implicitDefEqProofs (disch := constructor; omega) [lenm, t0, t1, t11, t94, t95, t96, hi, hl1, hcs', hg2, enPr, w1, hfit]
                            refine s22_67 ?_
                            simp -implicitDefEqProofs (disch := constructor; omega) [↓h22_67, lenm, t0, t1, t11, t94, t95, t96, hi, hl1, hcs', hg2, enPr, w1, hfit, hb5, hm5]
                            refine s22_68 ?_
                            simp -implicitDefEqProofs (disch := constructor; omega) [↓h22_68, lenm, t0, t1, t11, t94, t95, t96, hi, hl1, hcs', hg2, enPr, w1, hfit]
                            have hput : mput (kvP (p.take i)) (.one (.int .i64 a.m)) (.one (.bool true)) = kvP (p.take (i + 1)) := by
                              rw [mput_none _ hf, List.take_succ_eq_append_getElem hi, ← hae]; simp [kvP]
                            refine hN (k - 1) _ (by omega) ?_
                            dsimp only [keepOnly_eq]
                            refine ⟨i + 1, by omega, by simp -implicitDefEqProofs (disch := constructor; omega) [lenm, t0, t1, t11, t94, t95, t96, hi, hl1, hcs', hg2, enPr, w1, hfit], by simp -implicitDefEqProofs (disch := constructor; omega) [lenm, t0, t1, t11, t94, t95, t96, hi, hl1, hcs', hg2, enPr, w1, hfit], by simp -implicitDefEqProofs (disch := constructor; omega) [lenm, t0, t1, t11, t94, t95, t96, hi, hl1, hcs', hg2, enPr, w1, hfit], by simp -implicitDefEqProofs (disch := constructor; omega) [lenm, t0, t1, t11, t94, t95, t96, hi, hl1, hcs', hg2, enPr, w1, hfit], by simp -implicitDefEqProofs (disch := constructor; omega) [lenm, t0, t1, t11, t94, t95, t96, hi, hl1, hcs', hg2, enPr, w1, hfit], by simp -implicitDefEqProofs (disch := constructor; omega) [lenm, t0, t1, t11, t94, t95, t96, hi, hl1, hcs', hg2, enPr, w1, hfit], by simp -implicitDefEqProofs (disch := constructor; omega) [lenm, t0, t1, t11, t94, t95, t96, hi, hl1, hcs', hg2, enPr, w1, hfit, hput], (by (try dsimp only [keepOnly_eq]); omega), AH.le_mk (by (try dsimp only [keepOnly_eq]); omega) (fun i hi => by simp -implicitDefEqProofs (disch := constructor; omega) [lenm, t0, t1, t11, t94, t95, t96, hi, hl1, hcs', hg2, enPr, w1, hfit]; exact low5 i hi), ?_, ?_⟩
                            · intro x hx
                              rw [List.take_succ_eq_append_getElem hi, ← hae] at hx
                              rcases List.mem_append.1 hx with hx | hx
                              · exact hv x hx
                              · simp at hx; subst hx; exact ⟨by omega, by omega, m5⟩
                            · rw [List.take_succ_eq_append_getElem hi, ← hae, List.map_append, List.map_cons, List.map_nil]
                              refine List.nodup_append.2 ⟨hnd, by simp, fun y hy z hz e => ?_⟩
                              simp at hz; subst hz; subst e; exact hs hy
                        · have m7 : withinS a.s = false := by simpa using m5
                          (try simp -implicitDefEqProofs (disch := constructor; omega) [↓h22_63, ↓w22_63_1, ↓h22_63_1g, ↓h22_63_2, ↓w22_63_3, ↓h22_63_3g, ↓h22_63_3g_1, ↓h22_63_4, ↓w22_63_5, ↓h22_63_5g, ↓h22_63_6, lenm, t0, t1, t11, t94, t95, t96, hi, hl1, hcs', hg2, enPr, w1, hfit, m7, hb5, hm5])
                          refine s22_64 ?_
                          simp -implicitDefEqProofs (disch := constructor; omega) [lenm, t0, t1, t11, t94, t95, t96, hi, hl1, hcs', hg2, enPr, w1, hfit]
                          refine s22_65 ?_
                          simp -implicitDefEqProofs (disch := constructor; omega) [↓h22_66, lenm, t0, t1, t11, t94, t95, t96, hi, hl1, hcs', hg2, enPr, w1, hfit]
                          exact badw _ _ (fun hg => m5 (hg.pp a hmem).2.2) (AH.le_mk (by (try dsimp only [keepOnly_eq]); omega) low5) (by simp -implicitDefEqProofs (disch := constructor; omega) [lenm, t0, t1, t11, t94, t95, t96, hi, hl1, hcs', hg2, enPr, w1, hfit])
                  · rename_i hi
                    have hil : i = p.length := by omega
                    subst hil
                    rw [List.take_length] at hv hnd
                    refine hE 4 _ ?_
                    (try simp -implicitDefEqProofs (disch := constructor; omega) [lenm, lenw, t0, t1, t11, t94, t95, t96])
                    refine s22_69 ?_
                    simp -implicitDefEqProofs (disch := constructor; omega) [↓h22_70, ↓h22_70_1, lenm, lenw, t0, t1, t11, t94, t95, t96]
                    refine wF_mono (k32 m.length xw w _ (vw.keep (by (try dsimp only [keepOnly_eq]); omega) fun i hi => by simp -implicitDefEqProofs (disch := constructor; omega) [lenm, lenw, t0, t1, t11, t94, t95, t96]; exact ho i hi) (by omega) (by omega) (fun x hx => (hvw x hx).1)) ?_
                    rintro _ h6 ⟨y, r, fo, rfl, hS, hO, hn6, ho6⟩
                    (try dsimp only at hn6 ho6)
                    (try simp -implicitDefEqProofs (disch := constructor; omega) [↓h22_70, ↓h22_70_1, lenm, lenw, t0, t1, t11, t94, t95, t96])
                    refine s22_71 ?_
                    simp -implicitDefEqProofs (disch := constructor; omega) [↓h22_72, lenm, lenw, t0, t1, t11, t94, t95, t96]
                    refine hQ _ _ _ (.inr rfl) (by simp only [resc, resv, List.mapM_cons, List.mapM_nil, a22]; simp -implicitDefEqProofs (disch := constructor; omega) [lenm, lenw, t0, t1, t11, t94, t95, t96]) ⟨decide (r.length = m.length), rfl, ?_, (by (try dsimp only [keepOnly_eq]); omega), fun i hi => ?_⟩
                    · constructor
                      · intro hr
                        exact ⟨by omega, by omega, by omega, hvm, hvw, hv, hnd, r, hS, of_decide_eq_true hr⟩
                      · intro V
                        obtain ⟨r', h1, h2⟩ := V.s
                        exact decide_eq_true (by rw [hS.len_eq h1, h2])
                    · (try dsimp only)
                      rw [ho6 i (by omega)]
                      (try simp -implicitDefEqProofs (disch := constructor; omega) [lenm, lenw, t0, t1, t11, t94, t95, t96])
                      exact ho i hi
end Go.Proofs.Ythoicdnlcnppgaa.Fn
