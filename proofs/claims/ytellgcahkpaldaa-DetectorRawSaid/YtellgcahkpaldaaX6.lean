/- Contracts: Run. Conditions: none. -/
import Derived.Test.YtellgcahkpaldaaX5
set_option linter.unusedVariables false
set_option linter.unusedSimpArgs false
namespace Go.Proofs.Ytellgcahkpaldaa.Fn
open Go Go.Am
set_option maxRecDepth 100000
set_option maxHeartbeats 1000000
def okP (n : Int) (p : Pulse) : Prop := 0 ≤ p.r ∧ p.r < n
def goodR (n : Int) (l : List Pulse) : Prop := 0 ≤ n ∧ n ≤ 144 ∧ ∀ p ∈ l, okP n p
def stepR (cs : List Cnt) (p : Pulse) : List Cnt := cs.set p.r.toNat (feedS (cs.getD p.r.toNat ⟨0, 0, 0⟩) p)
def runL (n : Int) (l : List Pulse) : List Cnt := l.foldl stepR (List.replicate n.toNat ⟨0, 0, 0⟩)
theorem foldR_len : ∀ (l : List Pulse) (cs : List Cnt), (l.foldl stepR cs).length = cs.length
  | [], _ => rfl
  | p :: l, cs => by rw [List.foldl_cons, foldR_len l]; simp [stepR]
def RunQ (h : AH) (n : Int) (l : List Pulse) (r : T) (h' : AH) : Prop :=
  ((goodR n l ∧ ∃ y f, r = .tup [.one y, .one (.int .i64 0)] ∧ Own h'.o h.nx h'.nx y 26 3 enC (runL n l) f) ∨ (¬ goodR n l ∧ r = .tup [.one .nils, .one (.int .i64 4)])) ∧ h.le h'
theorem k23 (n : Int) (x : Cell) (l : List Pulse) (h : AH) (v : View h.o h.nx x enP l) (hlen : l.length < 9223372036854775807) :
    wF fs out 23 [.v (.one (.int .i64 n)), .v (.one x)] h fun r h' => RunQ h n l r h' := by
  refine wF_fn fs23 rfl fun Q hQ => ?_
  have lenx := v.lenV (fs := fs) (out := out)
  have bad : ∀ (t : Nat → T) (g : AH), ¬ goodR n l → h.le g → t 4 = .v (.one .nils) → t 5 = .v (.one (.int .i64 4)) → Q .ret ⟨t, g⟩ := by
    intro t g hb hl t4 t5
    refine hQ _ _ _ (.inr rfl) (by simp only [resc, resv, List.mapM_cons, List.mapM_nil, t4, t5, a23]; rfl) ⟨.inr ⟨hb, rfl⟩, hl⟩
  refine s23_0 ?_
  (try simp -implicitDefEqProofs (disch := first | (refine NE.mk ?_; first | omega | assumption) | (refine LTn.mk ?_; omega) | (refine NFam.mk ?_; simp only [lenx, updO_same, notFam_cells]; omega)) [↓h23_1, lenx, Nat.min_self, -List.length_flatMap])
  refine s23_2 ?_
  refine s23_3 ?_
  by_cases n0 : n < 0
  · (try simp -implicitDefEqProofs (disch := first | (refine NE.mk ?_; first | omega | assumption) | (refine LTn.mk ?_; omega) | (refine NFam.mk ?_; simp only [lenx, n0, updO_same, notFam_cells]; omega)) [↓h23_4, ↓w23_4_1, ↓h23_4_1g, ↓h23_4_2, lenx, n0, Nat.min_self, -List.length_flatMap])
    refine s23_5 ?_
    (try simp -implicitDefEqProofs (disch := first | (refine NE.mk ?_; first | omega | assumption) | (refine LTn.mk ?_; omega) | (refine NFam.mk ?_; simp only [lenx, updO_same, notFam_cells]; omega)) [lenx, Nat.min_self, -List.length_flatMap])
    refine s23_6 ?_
    simp -implicitDefEqProofs (disch := first | (refine NE.mk ?_; first | omega | assumption) | (refine LTn.mk ?_; omega) | (refine NFam.mk ?_; simp only [lenx, updO_same, notFam_cells]; omega)) [↓h23_7, lenx, Nat.min_self, -List.length_flatMap]
    exact bad _ _ (fun hg => by have := hg.1; omega) (AH.le_mk (by omega) fun _ _ => rfl) (by simp -implicitDefEqProofs (disch := first | (refine NE.mk ?_; first | omega | assumption) | (refine LTn.mk ?_; omega) | (refine NFam.mk ?_; simp only [lenx, updO_same, notFam_cells]; omega)) [lenx, Nat.min_self, -List.length_flatMap]) (by simp -implicitDefEqProofs (disch := first | (refine NE.mk ?_; first | omega | assumption) | (refine LTn.mk ?_; omega) | (refine NFam.mk ?_; simp only [lenx, updO_same, notFam_cells]; omega)) [lenx, Nat.min_self, -List.length_flatMap])
  · by_cases n1 : 144 < n
    · (try simp -implicitDefEqProofs (disch := first | (refine NE.mk ?_; first | omega | assumption) | (refine LTn.mk ?_; omega) | (refine NFam.mk ?_; simp only [lenx, n0, n1, updO_same, notFam_cells]; omega)) [↓h23_4, ↓w23_4_1, ↓h23_4_1g, ↓h23_4_2, lenx, n0, n1, Nat.min_self, -List.length_flatMap])
      refine s23_5 ?_
      (try simp -implicitDefEqProofs (disch := first | (refine NE.mk ?_; first | omega | assumption) | (refine LTn.mk ?_; omega) | (refine NFam.mk ?_; simp only [lenx, updO_same, notFam_cells]; omega)) [lenx, Nat.min_self, -List.length_flatMap])
      refine s23_6 ?_
      simp -implicitDefEqProofs (disch := first | (refine NE.mk ?_; first | omega | assumption) | (refine LTn.mk ?_; omega) | (refine NFam.mk ?_; simp only [lenx, updO_same, notFam_cells]; omega)) [↓h23_7, lenx, Nat.min_self, -List.length_flatMap]
      exact bad _ _ (fun hg => by have := hg.2.1; omega) (AH.le_mk (by omega) fun _ _ => rfl) (by simp -implicitDefEqProofs (disch := first | (refine NE.mk ?_; first | omega | assumption) | (refine LTn.mk ?_; omega) | (refine NFam.mk ?_; simp only [lenx, updO_same, notFam_cells]; omega)) [lenx, Nat.min_self, -List.length_flatMap]) (by simp -implicitDefEqProofs (disch := first | (refine NE.mk ?_; first | omega | assumption) | (refine LTn.mk ?_; omega) | (refine NFam.mk ?_; simp only [lenx, updO_same, notFam_cells]; omega)) [lenx, Nat.min_self, -List.length_flatMap])
    · (try simp -implicitDefEqProofs (disch := first | (refine NE.mk ?_; first | omega | assumption) | (refine LTn.mk ?_; omega) | (refine NFam.mk ?_; simp only [lenx, n0, n1, updO_same, notFam_cells]; omega)) [↓h23_4, ↓w23_4_1, ↓h23_4_1g, ↓h23_4_2, lenx, n0, n1, Nat.min_self, -List.length_flatMap])
      refine s23_5 ?_
      (try simp -implicitDefEqProofs (disch := first | (refine NE.mk ?_; first | omega | assumption) | (refine LTn.mk ?_; omega) | (refine NFam.mk ?_; simp only [lenx, updO_same, notFam_cells]; omega)) [lenx, Nat.min_self, -List.length_flatMap])
      refine wC_cut (a := c23_9) (b := c23_27) (fun s => s.t 0 = .v (.one (.int .i64 n)) ∧ s.t 1 = .v (.one x) ∧ h.le s.h ∧ goodR n l) ?_ ?_
      · intro Q1 h1 hX
        refine s23_9 ?_
        simp -implicitDefEqProofs (disch := first | (refine NE.mk ?_; first | omega | assumption) | (refine LTn.mk ?_; omega) | (refine NFam.mk ?_; simp only [lenx, updO_same, notFam_cells]; omega)) [↓h23_10, lenx, Nat.min_self, -List.length_flatMap]
        refine s23_11 ?_
        refine s23_12 (fun m s => ∃ i : Nat, i + m = l.length ∧ s.t 0 = .v (.one (.int .i64 n)) ∧ s.t 1 = .v (.one x) ∧ s.t 18 = .v (.one x) ∧ s.t 19 = .v (.one (.int .i64 l.length)) ∧ s.t 20 = .v (.one (.int .i64 i)) ∧ h.le s.h ∧ ∀ p ∈ l.take i, okP n p) l.length ?_ ?_
        · exact ⟨0, by omega, by simp -implicitDefEqProofs (disch := first | (refine NE.mk ?_; first | omega | assumption) | (refine LTn.mk ?_; omega) | (refine NFam.mk ?_; simp only [lenx, updO_same, notFam_cells]; omega)) [lenx, Nat.min_self, -List.length_flatMap], by simp -implicitDefEqProofs (disch := first | (refine NE.mk ?_; first | omega | assumption) | (refine LTn.mk ?_; omega) | (refine NFam.mk ?_; simp only [lenx, updO_same, notFam_cells]; omega)) [lenx, Nat.min_self, -List.length_flatMap], by simp -implicitDefEqProofs (disch := first | (refine NE.mk ?_; first | omega | assumption) | (refine LTn.mk ?_; omega) | (refine NFam.mk ?_; simp only [lenx, updO_same, notFam_cells]; omega)) [lenx, Nat.min_self, -List.length_flatMap], by simp -implicitDefEqProofs (disch := first | (refine NE.mk ?_; first | omega | assumption) | (refine LTn.mk ?_; omega) | (refine NFam.mk ?_; simp only [lenx, updO_same, notFam_cells]; omega)) [lenx, Nat.min_self, -List.length_flatMap], by simp -implicitDefEqProofs (disch := first | (refine NE.mk ?_; first | omega | assumption) | (refine LTn.mk ?_; omega) | (refine NFam.mk ?_; simp only [lenx, updO_same, notFam_cells]; omega)) [lenx, Nat.min_self, -List.length_flatMap], AH.le_mk (by omega) fun _ _ => rfl, by simp⟩
        · rintro m s Q2 ⟨i, hm, t0, t1, t18, t19, t20, hle, hp⟩ hN hE hR
          obtain ⟨hn, ho⟩ := hle
          refine s23_13 ?_
          simp -implicitDefEqProofs (disch := first | (refine NE.mk ?_; first | omega | assumption) | (refine LTn.mk ?_; omega) | (refine NFam.mk ?_; simp only [t0, t1, t18, t19, t20, updO_same, notFam_cells]; omega)) [↓h23_14, t0, t1, t18, t19, t20, Nat.min_self, -List.length_flatMap]
          refine s23_15 ?_
          simp -implicitDefEqProofs (disch := first | (refine NE.mk ?_; first | omega | assumption) | (refine LTn.mk ?_; omega) | (refine NFam.mk ?_; simp only [t0, t1, t18, t19, t20, updO_same, notFam_cells]; omega)) [t0, t1, t18, t19, t20, Nat.min_self, -List.length_flatMap]
          split
          · rename_i hi
            obtain ⟨j, f, ro, e, w, cs, rfl, hj, hcs, hl1, hg1, hg2, hg3⟩ := v.get enP_len hi
            have hcs' := (ho j hj).trans hcs
            obtain ⟨p, hpe⟩ : ∃ p, p = l[i] := ⟨_, rfl⟩
            rw [← hpe] at hg2 hg1 hg3
            have hmem : p ∈ l := by rw [hpe]; exact List.getElem_mem hi
            have w1 := wrap64 (show -9223372036854775808 ≤ (i : Int) + 1 by omega) (by omega)
            refine s23_17 ?_
            refine s23_18 ?_
            refine s23_19 ?_
            simp -implicitDefEqProofs (disch := first | (refine NE.mk ?_; first | omega | assumption) | (refine LTn.mk ?_; omega) | (refine NFam.mk ?_; simp only [t0, t1, t18, t19, t20, hi, hl1, hcs', hg2, enP, w1, updO_same, notFam_cells]; omega)) [↓h23_20, t0, t1, t18, t19, t20, hi, hl1, hcs', hg2, enP, w1, Nat.min_self, -List.length_flatMap]
            refine s23_21 ?_
            have badp : ∀ (t : Nat → T) (g : AH), ¬ okP n p → h.le g → t 4 = .v (.one .nils) → t 5 = .v (.one (.int .i64 4)) → Q2 .ret ⟨t, g⟩ := by
              intro t g hb hl t4 t5
              refine hR _ ?_
              (try simp -implicitDefEqProofs (disch := first | (refine NE.mk ?_; first | omega | assumption) | (refine LTn.mk ?_; omega) | (refine NFam.mk ?_; simp only [t0, t1, t18, t19, t20, hi, hl1, hcs', hg2, enP, w1, updO_same, notFam_cells]; omega)) [t0, t1, t18, t19, t20, hi, hl1, hcs', hg2, enP, w1, Nat.min_self, -List.length_flatMap])
              exact hX _ _ (by simp) (bad t g (fun hg => hb (hg.2.2 p hmem)) hl t4 t5)
            by_cases r0 : p.r < 0
            · (try simp -implicitDefEqProofs (disch := first | (refine NE.mk ?_; first | omega | assumption) | (refine LTn.mk ?_; omega) | (refine NFam.mk ?_; simp only [t0, t1, t18, t19, t20, hi, hl1, hcs', hg2, enP, w1, r0, updO_same, notFam_cells]; omega)) [↓h23_22, ↓w23_22_1, ↓h23_22_1g, ↓h23_22_2, t0, t1, t18, t19, t20, hi, hl1, hcs', hg2, enP, w1, r0, Nat.min_self, -List.length_flatMap])
              refine s23_23 ?_
              (try simp -implicitDefEqProofs (disch := first | (refine NE.mk ?_; first | omega | assumption) | (refine LTn.mk ?_; omega) | (refine NFam.mk ?_; simp only [t0, t1, t18, t19, t20, hi, hl1, hcs', hg2, enP, w1, updO_same, notFam_cells]; omega)) [t0, t1, t18, t19, t20, hi, hl1, hcs', hg2, enP, w1, Nat.min_self, -List.length_flatMap])
              refine s23_24 ?_
              simp -implicitDefEqProofs (disch := first | (refine NE.mk ?_; first | omega | assumption) | (refine LTn.mk ?_; omega) | (refine NFam.mk ?_; simp only [t0, t1, t18, t19, t20, hi, hl1, hcs', hg2, enP, w1, updO_same, notFam_cells]; omega)) [↓h23_25, t0, t1, t18, t19, t20, hi, hl1, hcs', hg2, enP, w1, Nat.min_self, -List.length_flatMap]
              refine badp _ _ (fun hk => by have := hk.1; omega) (AH.le_mk (by omega) fun k hk => ?_) (by simp -implicitDefEqProofs (disch := first | (refine NE.mk ?_; first | omega | assumption) | (refine LTn.mk ?_; omega) | (refine NFam.mk ?_; simp only [t0, t1, t18, t19, t20, hi, hl1, hcs', hg2, enP, w1, updO_same, notFam_cells]; omega)) [t0, t1, t18, t19, t20, hi, hl1, hcs', hg2, enP, w1, Nat.min_self, -List.length_flatMap]) (by simp -implicitDefEqProofs (disch := first | (refine NE.mk ?_; first | omega | assumption) | (refine LTn.mk ?_; omega) | (refine NFam.mk ?_; simp only [t0, t1, t18, t19, t20, hi, hl1, hcs', hg2, enP, w1, updO_same, notFam_cells]; omega)) [t0, t1, t18, t19, t20, hi, hl1, hcs', hg2, enP, w1, Nat.min_self, -List.length_flatMap])
              (try simp -implicitDefEqProofs (disch := first | (refine NE.mk ?_; first | omega | assumption) | (refine LTn.mk ?_; omega) | (refine NFam.mk ?_; simp only [t0, t1, t18, t19, t20, hi, hl1, hcs', hg2, enP, w1, updO_same, notFam_cells]; omega)) [t0, t1, t18, t19, t20, hi, hl1, hcs', hg2, enP, w1, Nat.min_self, -List.length_flatMap])
              exact ho k hk
            · by_cases r1 : n ≤ p.r
              · (try simp -implicitDefEqProofs (disch := first | (refine NE.mk ?_; first | omega | assumption) | (refine LTn.mk ?_; omega) | (refine NFam.mk ?_; simp only [t0, t1, t18, t19, t20, hi, hl1, hcs', hg2, enP, w1, r0, r1, updO_same, notFam_cells]; omega)) [↓h23_22, ↓w23_22_1, ↓h23_22_1g, ↓h23_22_2, t0, t1, t18, t19, t20, hi, hl1, hcs', hg2, enP, w1, r0, r1, Nat.min_self, -List.length_flatMap])
                refine s23_23 ?_
                (try simp -implicitDefEqProofs (disch := first | (refine NE.mk ?_; first | omega | assumption) | (refine LTn.mk ?_; omega) | (refine NFam.mk ?_; simp only [t0, t1, t18, t19, t20, hi, hl1, hcs', hg2, enP, w1, updO_same, notFam_cells]; omega)) [t0, t1, t18, t19, t20, hi, hl1, hcs', hg2, enP, w1, Nat.min_self, -List.length_flatMap])
                refine s23_24 ?_
                simp -implicitDefEqProofs (disch := first | (refine NE.mk ?_; first | omega | assumption) | (refine LTn.mk ?_; omega) | (refine NFam.mk ?_; simp only [t0, t1, t18, t19, t20, hi, hl1, hcs', hg2, enP, w1, updO_same, notFam_cells]; omega)) [↓h23_25, t0, t1, t18, t19, t20, hi, hl1, hcs', hg2, enP, w1, Nat.min_self, -List.length_flatMap]
                refine badp _ _ (fun hk => by have := hk.2; omega) (AH.le_mk (by omega) fun k hk => ?_) (by simp -implicitDefEqProofs (disch := first | (refine NE.mk ?_; first | omega | assumption) | (refine LTn.mk ?_; omega) | (refine NFam.mk ?_; simp only [t0, t1, t18, t19, t20, hi, hl1, hcs', hg2, enP, w1, updO_same, notFam_cells]; omega)) [t0, t1, t18, t19, t20, hi, hl1, hcs', hg2, enP, w1, Nat.min_self, -List.length_flatMap]) (by simp -implicitDefEqProofs (disch := first | (refine NE.mk ?_; first | omega | assumption) | (refine LTn.mk ?_; omega) | (refine NFam.mk ?_; simp only [t0, t1, t18, t19, t20, hi, hl1, hcs', hg2, enP, w1, updO_same, notFam_cells]; omega)) [t0, t1, t18, t19, t20, hi, hl1, hcs', hg2, enP, w1, Nat.min_self, -List.length_flatMap])
                (try simp -implicitDefEqProofs (disch := first | (refine NE.mk ?_; first | omega | assumption) | (refine LTn.mk ?_; omega) | (refine NFam.mk ?_; simp only [t0, t1, t18, t19, t20, hi, hl1, hcs', hg2, enP, w1, updO_same, notFam_cells]; omega)) [t0, t1, t18, t19, t20, hi, hl1, hcs', hg2, enP, w1, Nat.min_self, -List.length_flatMap])
                exact ho k hk
              · (try simp -implicitDefEqProofs (disch := first | (refine NE.mk ?_; first | omega | assumption) | (refine LTn.mk ?_; omega) | (refine NFam.mk ?_; simp only [t0, t1, t18, t19, t20, hi, hl1, hcs', hg2, enP, w1, r0, r1, updO_same, notFam_cells]; omega)) [↓h23_22, ↓w23_22_1, ↓h23_22_1g, ↓h23_22_2, t0, t1, t18, t19, t20, hi, hl1, hcs', hg2, enP, w1, r0, r1, Nat.min_self, -List.length_flatMap])
                refine s23_23 ?_
                (try simp -implicitDefEqProofs (disch := first | (refine NE.mk ?_; first | omega | assumption) | (refine LTn.mk ?_; omega) | (refine NFam.mk ?_; simp only [t0, t1, t18, t19, t20, hi, hl1, hcs', hg2, enP, w1, updO_same, notFam_cells]; omega)) [t0, t1, t18, t19, t20, hi, hl1, hcs', hg2, enP, w1, Nat.min_self, -List.length_flatMap])
                refine s23_26 ?_
                simp -implicitDefEqProofs (disch := first | (refine NE.mk ?_; first | omega | assumption) | (refine LTn.mk ?_; omega) | (refine NFam.mk ?_; simp only [t0, t1, t18, t19, t20, hi, hl1, hcs', hg2, enP, w1, updO_same, notFam_cells]; omega)) [↓h23_26, t0, t1, t18, t19, t20, hi, hl1, hcs', hg2, enP, w1, Nat.min_self, -List.length_flatMap]
                refine hN (m - 1) _ (by omega) ?_
                dsimp only [keepOnly_eq]
                refine ⟨i + 1, by omega, by simp -implicitDefEqProofs (disch := first | (refine NE.mk ?_; first | omega | assumption) | (refine LTn.mk ?_; omega) | (refine NFam.mk ?_; simp only [t0, t1, t18, t19, t20, hi, hl1, hcs', hg2, enP, w1, updO_same, notFam_cells]; omega)) [t0, t1, t18, t19, t20, hi, hl1, hcs', hg2, enP, w1, Nat.min_self, -List.length_flatMap], by simp -implicitDefEqProofs (disch := first | (refine NE.mk ?_; first | omega | assumption) | (refine LTn.mk ?_; omega) | (refine NFam.mk ?_; simp only [t0, t1, t18, t19, t20, hi, hl1, hcs', hg2, enP, w1, updO_same, notFam_cells]; omega)) [t0, t1, t18, t19, t20, hi, hl1, hcs', hg2, enP, w1, Nat.min_self, -List.length_flatMap], by simp -implicitDefEqProofs (disch := first | (refine NE.mk ?_; first | omega | assumption) | (refine LTn.mk ?_; omega) | (refine NFam.mk ?_; simp only [t0, t1, t18, t19, t20, hi, hl1, hcs', hg2, enP, w1, updO_same, notFam_cells]; omega)) [t0, t1, t18, t19, t20, hi, hl1, hcs', hg2, enP, w1, Nat.min_self, -List.length_flatMap], by simp -implicitDefEqProofs (disch := first | (refine NE.mk ?_; first | omega | assumption) | (refine LTn.mk ?_; omega) | (refine NFam.mk ?_; simp only [t0, t1, t18, t19, t20, hi, hl1, hcs', hg2, enP, w1, updO_same, notFam_cells]; omega)) [t0, t1, t18, t19, t20, hi, hl1, hcs', hg2, enP, w1, Nat.min_self, -List.length_flatMap], by simp -implicitDefEqProofs (disch := first | (refine NE.mk ?_; first | omega | assumption) | (refine LTn.mk ?_; omega) | (refine NFam.mk ?_; simp only [t0, t1, t18, t19, t20, hi, hl1, hcs', hg2, enP, w1, updO_same, notFam_cells]; omega)) [t0, t1, t18, t19, t20, hi, hl1, hcs', hg2, enP, w1, Nat.min_self, -List.length_flatMap], AH.le_mk (by omega) fun k hk => ?_, ?_⟩
                · (try simp -implicitDefEqProofs (disch := first | (refine NE.mk ?_; first | omega | assumption) | (refine LTn.mk ?_; omega) | (refine NFam.mk ?_; simp only [t0, t1, t18, t19, t20, hi, hl1, hcs', hg2, enP, w1, updO_same, notFam_cells]; omega)) [t0, t1, t18, t19, t20, hi, hl1, hcs', hg2, enP, w1, Nat.min_self, -List.length_flatMap])
                  exact ho k hk
                · intro q hq
                  rw [List.take_succ_eq_append_getElem hi, ← hpe] at hq
                  rcases List.mem_append.1 hq with h3 | h3
                  · exact hp q h3
                  · simp at h3; subst h3; exact ⟨by omega, by omega⟩
          · skip
            rename_i hi
            refine hE 0 _ ?_
            (try simp -implicitDefEqProofs (disch := first | (refine NE.mk ?_; first | omega | assumption) | (refine LTn.mk ?_; omega) | (refine NFam.mk ?_; simp only [t0, t1, t18, t19, t20, updO_same, notFam_cells]; omega)) [t0, t1, t18, t19, t20, Nat.min_self, -List.length_flatMap])
            refine h1 _ ⟨by simp -implicitDefEqProofs (disch := first | (refine NE.mk ?_; first | omega | assumption) | (refine LTn.mk ?_; omega) | (refine NFam.mk ?_; simp only [t0, t1, t18, t19, t20, updO_same, notFam_cells]; omega)) [t0, t1, t18, t19, t20, Nat.min_self, -List.length_flatMap], by simp -implicitDefEqProofs (disch := first | (refine NE.mk ?_; first | omega | assumption) | (refine LTn.mk ?_; omega) | (refine NFam.mk ?_; simp only [t0, t1, t18, t19, t20, updO_same, notFam_cells]; omega)) [t0, t1, t18, t19, t20, Nat.min_self, -List.length_flatMap], ⟨(by (try dsimp only [keepOnly_eq]); omega), ho⟩, by omega, by omega, ?_⟩
            rw [List.take_of_length_le (by omega)] at hp
            exact hp
      · rintro s ⟨t0, t1, ⟨hn, ho⟩, hg⟩
        have hn0 : 0 ≤ n := hg.1
        have hn1 : n ≤ 144 := hg.2.1
        obtain ⟨N, rfl⟩ : ∃ N : Nat, n = N := ⟨n.toNat, by omega⟩
        refine s23_27 ?_
        (try simp -implicitDefEqProofs (disch := first | (refine NE.mk ?_; first | omega | assumption) | (refine LTn.mk ?_; omega) | (refine NFam.mk ?_; simp only [t0, t1, lenx, show (N : Int) * 24 ≤ 140737488355328 by omega, show (N : Int) ≤ 9223372036854775807 by omega, updO_same, notFam_cells]; omega)) [↓h23_28, t0, t1, lenx, show (N : Int) * 24 ≤ 140737488355328 by omega, show (N : Int) ≤ 9223372036854775807 by omega, Nat.min_self, -List.length_flatMap])
        obtain ⟨q, hq⟩ : ∃ q, q = s.h.nx + 1 := ⟨_, rfl⟩
        rw [← hq, show ([.int .i64 0, .int .i64 0, .int .i64 0] : List Cell) = enC ⟨0, 0, 0⟩ from rfl, reps_rows]
        refine wC_cut (a := c23_30) (b := c23_44) (fun s => s.t 1 = .v (.one x) ∧ s.t 8 = .v (.one (.slice q 0 N)) ∧ s.h.o q = some (.cells q false 26 3 ((List.replicate N (⟨0, 0, 0⟩ : Cnt)).flatMap enC)) ∧ q < s.h.nx ∧ ∀ i, i < h.nx → s.h.o i = h.o i) ?_ ?_
        · intro Q1 h1 hX
          refine s23_30 ?_
          simp -implicitDefEqProofs (disch := first | (refine NE.mk ?_; first | omega | assumption) | (refine LTn.mk ?_; omega) | (refine NFam.mk ?_; simp only [t0, t1, lenx, updO_same, notFam_cells]; omega)) [↓h23_31, t0, t1, lenx, Nat.min_self, -List.length_flatMap]
          refine s23_32 ?_
          have hl3 : ((List.replicate N (⟨0, 0, 0⟩ : Cnt)).flatMap enC).length = N * 3 := by rw [rows_len enC_len]; simp
          refine s23_33 (fun m s => ∃ i : Nat, i + m = N ∧ s.t 1 = .v (.one x) ∧ s.t 8 = .v (.one (.slice q 0 N)) ∧ s.t 37 = .v (.one (.int .i64 N)) ∧ s.t 38 = .v (.one (.int .i64 i)) ∧ s.h.o q = some (.cells q false 26 3 ((List.replicate N (⟨0, 0, 0⟩ : Cnt)).flatMap enC)) ∧ q < s.h.nx ∧ ∀ i, i < h.nx → s.h.o i = h.o i) N ?_ ?_
          · exact ⟨0, by omega, by simp -implicitDefEqProofs (disch := first | (refine NE.mk ?_; first | omega | assumption) | (refine LTn.mk ?_; omega) | (refine NFam.mk ?_; simp only [t0, t1, lenx, updO_same, notFam_cells]; omega)) [t0, t1, lenx, Nat.min_self, -List.length_flatMap], by simp -implicitDefEqProofs (disch := first | (refine NE.mk ?_; first | omega | assumption) | (refine LTn.mk ?_; omega) | (refine NFam.mk ?_; simp only [t0, t1, lenx, updO_same, notFam_cells]; omega)) [t0, t1, lenx, Nat.min_self, -List.length_flatMap], by simp -implicitDefEqProofs (disch := first | (refine NE.mk ?_; first | omega | assumption) | (refine LTn.mk ?_; omega) | (refine NFam.mk ?_; simp only [t0, t1, lenx, updO_same, notFam_cells]; omega)) [t0, t1, lenx, Nat.min_self, -List.length_flatMap], by simp -implicitDefEqProofs (disch := first | (refine NE.mk ?_; first | omega | assumption) | (refine LTn.mk ?_; omega) | (refine NFam.mk ?_; simp only [t0, t1, lenx, updO_same, notFam_cells]; omega)) [t0, t1, lenx, Nat.min_self, -List.length_flatMap], by simp -implicitDefEqProofs (disch := first | (refine NE.mk ?_; first | omega | assumption) | (refine LTn.mk ?_; omega) | (refine NFam.mk ?_; simp only [t0, t1, lenx, updO_same, notFam_cells]; omega)) [t0, t1, lenx, Nat.min_self, -List.length_flatMap], (by (try dsimp only [keepOnly_eq]); omega), fun i hi => by simp -implicitDefEqProofs (disch := first | (refine NE.mk ?_; first | omega | assumption) | (refine LTn.mk ?_; omega) | (refine NFam.mk ?_; simp only [t0, t1, lenx, updO_same, notFam_cells]; omega)) [t0, t1, lenx, Nat.min_self, -List.length_flatMap]; exact ho i hi⟩
          · rintro m s Q2 ⟨i, hm, t1, t8, t37, t38, hoq, hqn, ho⟩ hN hE hR
            refine s23_34 ?_
            simp -implicitDefEqProofs (disch := first | (refine NE.mk ?_; first | omega | assumption) | (refine LTn.mk ?_; omega) | (refine NFam.mk ?_; simp only [t1, t8, t37, t38, updO_same, notFam_cells]; omega)) [↓h23_35, t1, t8, t37, t38, Nat.min_self, -List.length_flatMap]
            refine s23_36 ?_
            simp -implicitDefEqProofs (disch := first | (refine NE.mk ?_; first | omega | assumption) | (refine LTn.mk ?_; omega) | (refine NFam.mk ?_; simp only [t1, t8, t37, t38, updO_same, notFam_cells]; omega)) [t1, t8, t37, t38, Nat.min_self, -List.length_flatMap]
            split
            · rename_i hi
              have w1 := wrap64 (show -9223372036854775808 ≤ (i : Int) + 1 by omega) (by omega)
              have e1 := rows_set1 enC_len (List.replicate N (⟨0, 0, 0⟩ : Cnt)) (i := i) (k := 0) (c := .int .i64 0) (a := ⟨0, 0, 0⟩) (by simpa using hi) (by omega) (by simp [enC])
              rw [Nat.add_zero, List.set_replicate_self] at e1
              have hi3 : i * 3 < N * 3 := by omega
              refine s23_38 ?_
              refine s23_39 ?_
              refine s23_40 ?_
              simp -implicitDefEqProofs (disch := first | (refine NE.mk ?_; first | omega | assumption) | (refine LTn.mk ?_; omega) | (refine NFam.mk ?_; simp only [t1, t8, t37, t38, hi, w1, hoq, hl3, e1, hi3, updO_same, notFam_cells]; omega)) [↓h23_41, t1, t8, t37, t38, hi, w1, hoq, hl3, e1, hi3, Nat.min_self, -List.length_flatMap]
              refine s23_42 ?_
              simp -implicitDefEqProofs (disch := first | (refine NE.mk ?_; first | omega | assumption) | (refine LTn.mk ?_; omega) | (refine NFam.mk ?_; simp only [t1, t8, t37, t38, hi, w1, hoq, hl3, e1, hi3, updO_same, notFam_cells]; omega)) [↓h23_42, t1, t8, t37, t38, hi, w1, hoq, hl3, e1, hi3, Nat.min_self, -List.length_flatMap]
              refine s23_43 ?_
              simp -implicitDefEqProofs (disch := first | (refine NE.mk ?_; first | omega | assumption) | (refine LTn.mk ?_; omega) | (refine NFam.mk ?_; simp only [t1, t8, t37, t38, hi, w1, hoq, hl3, e1, hi3, updO_same, notFam_cells]; omega)) [↓h23_43, t1, t8, t37, t38, hi, w1, hoq, hl3, e1, hi3, Nat.min_self, -List.length_flatMap]
              refine hN (m - 1) _ (by omega) ?_
              dsimp only [keepOnly_eq]
              refine ⟨i + 1, by omega, by simp -implicitDefEqProofs (disch := first | (refine NE.mk ?_; first | omega | assumption) | (refine LTn.mk ?_; omega) | (refine NFam.mk ?_; simp only [t1, t8, t37, t38, hi, w1, hoq, hl3, e1, hi3, updO_same, notFam_cells]; omega)) [t1, t8, t37, t38, hi, w1, hoq, hl3, e1, hi3, Nat.min_self, -List.length_flatMap], by simp -implicitDefEqProofs (disch := first | (refine NE.mk ?_; first | omega | assumption) | (refine LTn.mk ?_; omega) | (refine NFam.mk ?_; simp only [t1, t8, t37, t38, hi, w1, hoq, hl3, e1, hi3, updO_same, notFam_cells]; omega)) [t1, t8, t37, t38, hi, w1, hoq, hl3, e1, hi3, Nat.min_self, -List.length_flatMap], by simp -implicitDefEqProofs (disch := first | (refine NE.mk ?_; first | omega | assumption) | (refine LTn.mk ?_; omega) | (refine NFam.mk ?_; simp only [t1, t8, t37, t38, hi, w1, hoq, hl3, e1, hi3, updO_same, notFam_cells]; omega)) [t1, t8, t37, t38, hi, w1, hoq, hl3, e1, hi3, Nat.min_self, -List.length_flatMap], by simp -implicitDefEqProofs (disch := first | (refine NE.mk ?_; first | omega | assumption) | (refine LTn.mk ?_; omega) | (refine NFam.mk ?_; simp only [t1, t8, t37, t38, hi, w1, hoq, hl3, e1, hi3, updO_same, notFam_cells]; omega)) [t1, t8, t37, t38, hi, w1, hoq, hl3, e1, hi3, Nat.min_self, -List.length_flatMap], by simp -implicitDefEqProofs (disch := first | (refine NE.mk ?_; first | omega | assumption) | (refine LTn.mk ?_; omega) | (refine NFam.mk ?_; simp only [t1, t8, t37, t38, hi, w1, hoq, hl3, e1, hi3, updO_same, notFam_cells]; omega)) [t1, t8, t37, t38, hi, w1, hoq, hl3, e1, hi3, Nat.min_self, -List.length_flatMap], (by (try dsimp only [keepOnly_eq]); omega), fun k hk => ?_⟩
              (try simp -implicitDefEqProofs (disch := first | (refine NE.mk ?_; first | omega | assumption) | (refine LTn.mk ?_; omega) | (refine NFam.mk ?_; simp only [t1, t8, t37, t38, hi, w1, hoq, hl3, e1, hi3, updO_same, notFam_cells]; omega)) [t1, t8, t37, t38, hi, w1, hoq, hl3, e1, hi3, Nat.min_self, -List.length_flatMap])
              exact ho k hk
            · skip
              rename_i hi
              refine hE 2 _ ?_
              (try simp -implicitDefEqProofs (disch := first | (refine NE.mk ?_; first | omega | assumption) | (refine LTn.mk ?_; omega) | (refine NFam.mk ?_; simp only [t1, t8, t37, t38, updO_same, notFam_cells]; omega)) [t1, t8, t37, t38, Nat.min_self, -List.length_flatMap])
              exact h1 _ ⟨by simp -implicitDefEqProofs (disch := first | (refine NE.mk ?_; first | omega | assumption) | (refine LTn.mk ?_; omega) | (refine NFam.mk ?_; simp only [t1, t8, t37, t38, updO_same, notFam_cells]; omega)) [t1, t8, t37, t38, Nat.min_self, -List.length_flatMap], by simp -implicitDefEqProofs (disch := first | (refine NE.mk ?_; first | omega | assumption) | (refine LTn.mk ?_; omega) | (refine NFam.mk ?_; simp only [t1, t8, t37, t38, updO_same, notFam_cells]; omega)) [t1, t8, t37, t38, Nat.min_self, -List.length_flatMap], hoq, (by (try dsimp only [keepOnly_eq]); omega), ho⟩
        · rintro s ⟨t1, t8, hoq, hqn, ho⟩
          refine s23_44 ?_
          refine s23_45 ?_
          simp -implicitDefEqProofs (disch := first | (refine NE.mk ?_; first | omega | assumption) | (refine LTn.mk ?_; omega) | (refine NFam.mk ?_; simp only [t1, t8, lenx, updO_same, notFam_cells]; omega)) [↓h23_46, t1, t8, lenx, Nat.min_self, -List.length_flatMap]
          refine s23_47 ?_
          refine s23_48 (fun m s => ∃ i : Nat, i + m = l.length ∧ s.t 8 = .v (.one (.slice q 0 N)) ∧ s.t 46 = .v (.one x) ∧ s.t 47 = .v (.one (.int .i64 l.length)) ∧ s.t 48 = .v (.one (.int .i64 i)) ∧ s.h.o q = some (.cells q false 26 3 (((l.take i).foldl stepR (List.replicate N (⟨0, 0, 0⟩ : Cnt))).flatMap enC)) ∧ q < s.h.nx ∧ ∀ i, i < h.nx → s.h.o i = h.o i) l.length ?_ ?_
          · exact ⟨0, by omega, by simp -implicitDefEqProofs (disch := first | (refine NE.mk ?_; first | omega | assumption) | (refine LTn.mk ?_; omega) | (refine NFam.mk ?_; simp only [t1, t8, lenx, updO_same, notFam_cells]; omega)) [t1, t8, lenx, Nat.min_self, -List.length_flatMap], by simp -implicitDefEqProofs (disch := first | (refine NE.mk ?_; first | omega | assumption) | (refine LTn.mk ?_; omega) | (refine NFam.mk ?_; simp only [t1, t8, lenx, updO_same, notFam_cells]; omega)) [t1, t8, lenx, Nat.min_self, -List.length_flatMap], by simp -implicitDefEqProofs (disch := first | (refine NE.mk ?_; first | omega | assumption) | (refine LTn.mk ?_; omega) | (refine NFam.mk ?_; simp only [t1, t8, lenx, updO_same, notFam_cells]; omega)) [t1, t8, lenx, Nat.min_self, -List.length_flatMap], by simp -implicitDefEqProofs (disch := first | (refine NE.mk ?_; first | omega | assumption) | (refine LTn.mk ?_; omega) | (refine NFam.mk ?_; simp only [t1, t8, lenx, updO_same, notFam_cells]; omega)) [t1, t8, lenx, Nat.min_self, -List.length_flatMap], by simp -implicitDefEqProofs (disch := first | (refine NE.mk ?_; first | omega | assumption) | (refine LTn.mk ?_; omega) | (refine NFam.mk ?_; simp only [t1, t8, lenx, updO_same, notFam_cells]; omega)) [t1, t8, lenx, Nat.min_self, -List.length_flatMap]; exact hoq, (by (try dsimp only [keepOnly_eq]); omega), fun i hi => by simp -implicitDefEqProofs (disch := first | (refine NE.mk ?_; first | omega | assumption) | (refine LTn.mk ?_; omega) | (refine NFam.mk ?_; simp only [t1, t8, lenx, updO_same, notFam_cells]; omega)) [t1, t8, lenx, Nat.min_self, -List.length_flatMap]; exact ho i hi⟩
          · rintro m s Q2 ⟨i, hm, t8, t46, t47, t48, hoq, hqn, ho⟩ hN hE hR
            refine s23_49 ?_
            simp -implicitDefEqProofs (disch := first | (refine NE.mk ?_; first | omega | assumption) | (refine LTn.mk ?_; omega) | (refine NFam.mk ?_; simp only [t8, t46, t47, t48, updO_same, notFam_cells]; omega)) [↓h23_50, t8, t46, t47, t48, Nat.min_self, -List.length_flatMap]
            refine s23_51 ?_
            simp -implicitDefEqProofs (disch := first | (refine NE.mk ?_; first | omega | assumption) | (refine LTn.mk ?_; omega) | (refine NFam.mk ?_; simp only [t8, t46, t47, t48, updO_same, notFam_cells]; omega)) [t8, t46, t47, t48, Nat.min_self, -List.length_flatMap]
            split
            · rename_i hi
              obtain ⟨j, f, ro, e, w, cs, rfl, hj, hcs, hl1, hg1, hg2, hg3⟩ := v.get enP_len hi
              have hcs' := (ho j hj).trans hcs
              obtain ⟨p, hpe⟩ : ∃ p, p = l[i] := ⟨_, rfl⟩
              rw [← hpe] at hg2 hg1 hg3
              obtain ⟨r0, r1⟩ := hg.2.2 p (by rw [hpe]; exact List.getElem_mem hi)
              obtain ⟨k, hk⟩ : ∃ k : Nat, p.r = k := ⟨p.r.toNat, by omega⟩
              obtain ⟨L, hL⟩ : ∃ L, L = (l.take i).foldl stepR (List.replicate N (⟨0, 0, 0⟩ : Cnt)) := ⟨_, rfl⟩
              have hLN : L.length = N := by rw [hL, foldR_len]; simp
              rw [← hL] at hoq
              have hkN : k < N := by omega
              have w1 := wrap64 (show -9223372036854775808 ≤ (i : Int) + 1 by omega) (by omega)
              have hl3 : (L.flatMap enC).length = N * 3 := by rw [rows_len enC_len, hLN]
              have hk3 : k * 3 + 3 ≤ N * 3 := by omega
              have g1 := rows_get0 enC_len L (i := k) (by omega)
              refine s23_53 ?_
              refine s23_54 ?_
              refine s23_55 ?_
              simp -implicitDefEqProofs (disch := first | (refine NE.mk ?_; first | omega | assumption) | (refine LTn.mk ?_; omega) | (refine NFam.mk ?_; simp only [t8, t46, t47, t48, hi, w1, hoq, hl3, hk3, g1, hkN, hl1, hcs', hg2, hk, enP, updO_same, notFam_cells]; omega)) [↓h23_56, t8, t46, t47, t48, hi, w1, hoq, hl3, hk3, g1, hkN, hl1, hcs', hg2, hk, enP, Nat.min_self, -List.length_flatMap]
              refine s23_57 ?_
              simp -implicitDefEqProofs (disch := first | (refine NE.mk ?_; first | omega | assumption) | (refine LTn.mk ?_; omega) | (refine NFam.mk ?_; simp only [t8, t46, t47, t48, hi, w1, hoq, hl3, hk3, g1, hkN, hl1, hcs', hg2, hk, enP, updO_same, notFam_cells]; omega)) [↓h23_57, t8, t46, t47, t48, hi, w1, hoq, hl3, hk3, g1, hkN, hl1, hcs', hg2, hk, enP, Nat.min_self, -List.length_flatMap]
              have hpp : (⟨k, p.i, p.a, p.b⟩ : Pulse) = p := by rw [← hk]
              refine wF_mono (k14 L[k] ⟨k, p.i, p.a, p.b⟩ _) ?_
              rintro _ g ⟨rfl, hn4, ho4⟩
              rw [hpp]
              (try dsimp only at hn4 ho4)
              obtain ⟨b, hb⟩ : ∃ b, b = s.h.nx + 1 + 2 := ⟨_, rfl⟩
              rw [← hb] at ho4
              rw [← hb]
              have gq : g.o q = some (.cells q false 26 3 (L.flatMap enC)) := by rw [ho4 q (by omega)]; simp -implicitDefEqProofs (disch := first | (refine NE.mk ?_; first | omega | assumption) | (refine LTn.mk ?_; omega) | (refine NFam.mk ?_; simp only [t8, t46, t47, t48, hi, w1, hoq, hl3, hk3, g1, hkN, hl1, hcs', hg2, hk, updO_same, notFam_cells]; omega)) [t8, t46, t47, t48, hi, w1, hoq, hl3, hk3, g1, hkN, hl1, hcs', hg2, hk, Nat.min_self, -List.length_flatMap]
              have gb : g.o b = some (.cells b false 31 0 [.int .i64 k, .bool p.i, .int .i64 p.a, .int .i64 p.b]) := by rw [ho4 b (by omega)]; simp -implicitDefEqProofs (disch := first | (refine NE.mk ?_; first | omega | assumption) | (refine LTn.mk ?_; omega) | (refine NFam.mk ?_; simp only [t8, t46, t47, t48, hi, w1, hoq, hl3, hk3, g1, hkN, hl1, hcs', hg2, hk, updO_same, notFam_cells]; omega)) [t8, t46, t47, t48, hi, w1, hoq, hl3, hk3, g1, hkN, hl1, hcs', hg2, hk, Nat.min_self, -List.length_flatMap]
              have glow : ∀ i, i < h.nx → g.o i = h.o i := fun i hi => by rw [ho4 i (by omega)]; simp -implicitDefEqProofs (disch := first | (refine NE.mk ?_; first | omega | assumption) | (refine LTn.mk ?_; omega) | (refine NFam.mk ?_; simp only [t8, t46, t47, t48, hi, w1, hoq, hl3, hk3, g1, hkN, hl1, hcs', hg2, hk, updO_same, notFam_cells]; omega)) [t8, t46, t47, t48, hi, w1, hoq, hl3, hk3, g1, hkN, hl1, hcs', hg2, hk, Nat.min_self, -List.length_flatMap]; exact ho i hi
              have e4 := rows_set0 enC_len L (i := k) (by omega) (feedS L[k] p)
              (try simp -implicitDefEqProofs (disch := first | (refine NE.mk ?_; first | omega | assumption) | (refine LTn.mk ?_; omega) | (refine NFam.mk ?_; simp only [t8, t46, t47, t48, hi, w1, hl3, hk3, hkN, hk, gq, gb, e4, enC_len, enC_solid, updO_same, notFam_cells]; omega)) [t8, t46, t47, t48, hi, w1, hl3, hk3, hkN, hk, gq, gb, e4, enC_len, enC_solid, Nat.min_self, -List.length_flatMap])
              refine ⟨hold_load (j := b) (o := 0) (f := b) (ro := false) (e := 31) (w := 0) (cs := [.int .i64 k, .bool p.i, .int .i64 p.a, .int .i64 p.b]) (c := .int .i64 k) (by simp -implicitDefEqProofs (disch := first | (refine NE.mk ?_; first | omega | assumption) | (refine LTn.mk ?_; omega) | (refine NFam.mk ?_; simp only [t8, t46, t47, t48, hi, w1, hl3, hk3, hkN, hk, gq, gb, e4, enC_len, enC_solid, updO_same, notFam_cells]; omega)) [t8, t46, t47, t48, hi, w1, hl3, hk3, hkN, hk, gq, gb, e4, enC_len, enC_solid, Nat.min_self, -List.length_flatMap]) (by simp -implicitDefEqProofs (disch := first | (refine NE.mk ?_; first | omega | assumption) | (refine LTn.mk ?_; omega) | (refine NFam.mk ?_; simp only [t8, t46, t47, t48, hi, w1, hl3, hk3, hkN, hk, gq, gb, e4, enC_len, enC_solid, updO_same, notFam_cells]; omega)) [t8, t46, t47, t48, hi, w1, hl3, hk3, hkN, hk, gq, gb, e4, enC_len, enC_solid, Nat.min_self, -List.length_flatMap]) (by simp -implicitDefEqProofs (disch := first | (refine NE.mk ?_; first | omega | assumption) | (refine LTn.mk ?_; omega) | (refine NFam.mk ?_; simp only [t8, t46, t47, t48, hi, w1, hl3, hk3, hkN, hk, gq, gb, e4, enC_len, enC_solid, updO_same, notFam_cells]; omega)) [t8, t46, t47, t48, hi, w1, hl3, hk3, hkN, hk, gq, gb, e4, enC_len, enC_solid, Nat.min_self, -List.length_flatMap]) rfl, ?_⟩
              (try simp -implicitDefEqProofs (disch := first | (refine NE.mk ?_; first | omega | assumption) | (refine LTn.mk ?_; omega) | (refine NFam.mk ?_; simp only [t8, t46, t47, t48, hi, w1, hl3, hk3, hkN, hk, gq, gb, e4, enC_len, enC_solid, updO_same, notFam_cells]; omega)) [↓h23_57h1, t8, t46, t47, t48, hi, w1, hl3, hk3, hkN, hk, gq, gb, e4, enC_len, enC_solid, Nat.min_self, -List.length_flatMap])
              refine s23_58 ?_
              simp -implicitDefEqProofs (disch := first | (refine NE.mk ?_; first | omega | assumption) | (refine LTn.mk ?_; omega) | (refine NFam.mk ?_; simp only [t8, t46, t47, t48, hi, w1, hl3, hk3, hkN, hk, gq, gb, e4, enC_len, enC_solid, updO_same, notFam_cells]; omega)) [↓h23_58, t8, t46, t47, t48, hi, w1, hl3, hk3, hkN, hk, gq, gb, e4, enC_len, enC_solid, Nat.min_self, -List.length_flatMap]
              have hnext : (l.take (i + 1)).foldl stepR (List.replicate N (⟨0, 0, 0⟩ : Cnt)) = L.set k (feedS L[k] p) := by
                rw [List.take_succ_eq_append_getElem hi, List.foldl_append, ← hL, ← hpe]
                simp only [List.foldl_cons, List.foldl_nil, stepR, hk, Int.toNat_natCast, List.getD]
                rw [List.getElem?_eq_getElem (by omega)]; rfl
              refine hN (m - 1) _ (by omega) ?_
              dsimp only [keepOnly_eq]
              refine ⟨i + 1, by omega, by simp -implicitDefEqProofs (disch := first | (refine NE.mk ?_; first | omega | assumption) | (refine LTn.mk ?_; omega) | (refine NFam.mk ?_; simp only [t8, t46, t47, t48, hi, w1, hl3, hk3, hkN, hk, gq, gb, e4, enC_len, enC_solid, updO_same, notFam_cells]; omega)) [t8, t46, t47, t48, hi, w1, hl3, hk3, hkN, hk, gq, gb, e4, enC_len, enC_solid, Nat.min_self, -List.length_flatMap], by simp -implicitDefEqProofs (disch := first | (refine NE.mk ?_; first | omega | assumption) | (refine LTn.mk ?_; omega) | (refine NFam.mk ?_; simp only [t8, t46, t47, t48, hi, w1, hl3, hk3, hkN, hk, gq, gb, e4, enC_len, enC_solid, updO_same, notFam_cells]; omega)) [t8, t46, t47, t48, hi, w1, hl3, hk3, hkN, hk, gq, gb, e4, enC_len, enC_solid, Nat.min_self, -List.length_flatMap], by simp -implicitDefEqProofs (disch := first | (refine NE.mk ?_; first | omega | assumption) | (refine LTn.mk ?_; omega) | (refine NFam.mk ?_; simp only [t8, t46, t47, t48, hi, w1, hl3, hk3, hkN, hk, gq, gb, e4, enC_len, enC_solid, updO_same, notFam_cells]; omega)) [t8, t46, t47, t48, hi, w1, hl3, hk3, hkN, hk, gq, gb, e4, enC_len, enC_solid, Nat.min_self, -List.length_flatMap], by simp -implicitDefEqProofs (disch := first | (refine NE.mk ?_; first | omega | assumption) | (refine LTn.mk ?_; omega) | (refine NFam.mk ?_; simp only [t8, t46, t47, t48, hi, w1, hl3, hk3, hkN, hk, gq, gb, e4, enC_len, enC_solid, updO_same, notFam_cells]; omega)) [t8, t46, t47, t48, hi, w1, hl3, hk3, hkN, hk, gq, gb, e4, enC_len, enC_solid, Nat.min_self, -List.length_flatMap], by simp -implicitDefEqProofs (disch := first | (refine NE.mk ?_; first | omega | assumption) | (refine LTn.mk ?_; omega) | (refine NFam.mk ?_; simp only [t8, t46, t47, t48, hi, w1, hl3, hk3, hkN, hk, gq, gb, e4, enC_len, enC_solid, hnext, updO_same, notFam_cells]; omega)) [t8, t46, t47, t48, hi, w1, hl3, hk3, hkN, hk, gq, gb, e4, enC_len, enC_solid, hnext, Nat.min_self, -List.length_flatMap], (by (try dsimp only [keepOnly_eq]); omega), fun k hk => ?_⟩
              (try simp -implicitDefEqProofs (disch := first | (refine NE.mk ?_; first | omega | assumption) | (refine LTn.mk ?_; omega) | (refine NFam.mk ?_; simp only [t8, t46, t47, t48, hi, w1, hl3, hk3, hkN, hk, gq, gb, e4, enC_len, enC_solid, updO_same, notFam_cells]; omega)) [t8, t46, t47, t48, hi, w1, hl3, hk3, hkN, hk, gq, gb, e4, enC_len, enC_solid, Nat.min_self, -List.length_flatMap])
              exact glow k hk
            · skip
              rename_i hi
              refine hE 4 _ ?_
              (try simp -implicitDefEqProofs (disch := first | (refine NE.mk ?_; first | omega | assumption) | (refine LTn.mk ?_; omega) | (refine NFam.mk ?_; simp only [t8, t46, t47, t48, updO_same, notFam_cells]; omega)) [t8, t46, t47, t48, Nat.min_self, -List.length_flatMap])
              refine s23_59 ?_
              simp -implicitDefEqProofs (disch := first | (refine NE.mk ?_; first | omega | assumption) | (refine LTn.mk ?_; omega) | (refine NFam.mk ?_; simp only [t8, t46, t47, t48, updO_same, notFam_cells]; omega)) [↓h23_60, t8, t46, t47, t48, Nat.min_self, -List.length_flatMap]
              have hfin : (l.take i).foldl stepR (List.replicate N (⟨0, 0, 0⟩ : Cnt)) = runL N l := by
                rw [List.take_of_length_le (by omega)]; simp [runL]
              have hfl : (runL N l).length = N := by unfold runL; rw [foldR_len]; simp
              rw [hfin] at hoq
              refine hQ _ _ _ (.inr rfl) (by simp only [resc, resv, List.mapM_cons, List.mapM_nil, a23]; rfl) ⟨.inl ⟨hg, .slice q 0 N, q, by simp -implicitDefEqProofs (disch := first | (refine NE.mk ?_; first | omega | assumption) | (refine LTn.mk ?_; omega) | (refine NFam.mk ?_; simp only [t8, t46, t47, t48, updO_same, notFam_cells]; omega)) [t8, t46, t47, t48, Nat.min_self, -List.length_flatMap], .inr ⟨q, by rw [hfl], hoq, by omega, by omega, (by (try dsimp only [keepOnly_eq]); omega)⟩⟩, (by (try dsimp only [keepOnly_eq]); omega), ho⟩
end Go.Proofs.Ytellgcahkpaldaa.Fn
