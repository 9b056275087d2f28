/- DetectorRaw, by the rules. Conditions: none. -/
import Derived.Test.YtellgcahkpaldaaX8
import Derived.Test.YtellgcahkpaldaaAmRs
set_option linter.unusedVariables false
set_option linter.unusedSimpArgs false
namespace Go.Proofs.Ytellgcahkpaldaa.Fn
open Go Go.Am
set_option maxRecDepth 100000
set_option maxHeartbeats 1000000
theorem opens_enC : Opens [true, true, true] enC := by
  intro cs h
  match cs, h with
  | [.int .i64 a, .int .i64 b, .int .i64 c], h => exact ⟨⟨a, b, c⟩, rfl⟩
theorem opens_enP : Opens [true, false, true, true] enP := by
  intro cs h
  match cs, h with
  | [.int .i64 a, .bool b, .int .i64 c, .int .i64 d], h => exact ⟨⟨a, b, c, d⟩, rfl⟩
theorem RunQ.told (n : Int) (l : List Pulse) : ∃ (e : Int) (L : List Cnt), L.length < 9223372036854775807 ∧ ∀ (h : AH) (r : T) (h' : AH), RunQ h n l r h' → ∃ y, r = .tup [.one y, .one (.int .i64 e)] ∧ View h'.o h'.nx y enC L ∧ h.le h' := by
  by_cases hg : goodR n l
  · refine ⟨0, runL n l, ?_, fun h r h' q => ?_⟩
    · unfold runL; rw [foldR_len]; have := hg.2.1; simp; omega
    · rcases q with ⟨⟨_, y, f, rfl, O⟩ | ⟨hb, rfl⟩, hle⟩
      · exact ⟨y, rfl, O.view, hle⟩
      · exact absurd hg hb
  · refine ⟨4, [], by simp, fun h r h' q => ?_⟩
    rcases q with ⟨⟨hb, _⟩ | ⟨_, rfl⟩, hle⟩
    · exact absurd hb hg
    · exact ⟨.nils, rfl, .inl ⟨rfl, rfl⟩, hle⟩
theorem k10 (c : Cnt) (p : Pulse) (n : Int) (x : Cell) (l : List Pulse) (h : AH) (v : View h.o h.nx x enP l) (hlen : l.length < 9223372036854775807) :
    wF fs out 10 [.v (.agg (enC c)), .v (.agg (enP p)), .v (.one (.int .i64 n)), .v (.one x)] h fun r h' => r = .v (.one (.bool true)) := by
  obtain ⟨e, L, hLl, told⟩ := RunQ.told n l
  refine wF_fn fs10 rfl fun Q hQ => ?_
  refine s10_0 ?_
  simp -implicitDefEqProofs (disch := first | (refine NE.mk ?_; first | omega | assumption) | (refine LTn.mk ?_; omega) | (refine NFam.mk ?_; simp only [enC, enP, updO_same, notFam_cells]; omega)) [↓h10_1, enC, enP, Nat.min_self, -List.length_flatMap]
  refine s10_2 ?_
  simp -implicitDefEqProofs (disch := first | (refine NE.mk ?_; first | omega | assumption) | (refine LTn.mk ?_; omega) | (refine NFam.mk ?_; simp only [enC, enP, updO_same, notFam_cells]; omega)) [↓h10_3, ↓h10_3_1, enC, enP, Nat.min_self, -List.length_flatMap]
  refine wF_mono (k23 n x l _ (v.keep (by (try dsimp only [keepOnly_eq]); omega) fun i hi => by simp -implicitDefEqProofs (disch := first | (refine NE.mk ?_; first | omega | assumption) | (refine LTn.mk ?_; omega) | (refine NFam.mk ?_; simp only [updO_same, notFam_cells]; omega)) [Nat.min_self, -List.length_flatMap]) hlen) ?_
  rintro _ h1 q1
  obtain ⟨y, rfl, V1, hn1, ho1⟩ := told _ _ _ q1
  (try dsimp only at hn1 ho1)
  have p0 : h1.o h.nx = some (.cells h.nx false 26 0 [.int .i64 c.s, .int .i64 c.a, .int .i64 c.b]) := by rw [ho1 _ (by omega)]; simp -implicitDefEqProofs (disch := first | (refine NE.mk ?_; first | omega | assumption) | (refine LTn.mk ?_; omega) | (refine NFam.mk ?_; simp only [updO_same, notFam_cells]; omega)) [Nat.min_self, -List.length_flatMap]
  have p1 : h1.o (h.nx + 1) = some (.cells (h.nx + 1) false 31 0 [.int .i64 p.r, .bool p.i, .int .i64 p.a, .int .i64 p.b]) := by rw [ho1 _ (by omega)]; simp -implicitDefEqProofs (disch := first | (refine NE.mk ?_; first | omega | assumption) | (refine LTn.mk ?_; omega) | (refine NFam.mk ?_; simp only [updO_same, notFam_cells]; omega)) [Nat.min_self, -List.length_flatMap]
  have v1 : View h1.o h1.nx x enP l := v.keep (by omega) fun i hi => by rw [ho1 i (by omega)]; simp -implicitDefEqProofs (disch := first | (refine NE.mk ?_; first | omega | assumption) | (refine LTn.mk ?_; omega) | (refine NFam.mk ?_; simp only [updO_same, notFam_cells]; omega)) [Nat.min_self, -List.length_flatMap]
  (try simp -implicitDefEqProofs (disch := first | (refine NE.mk ?_; first | omega | assumption) | (refine LTn.mk ?_; omega) | (refine NFam.mk ?_; simp only [updO_same, notFam_cells]; omega)) [↓h10_3, ↓h10_3_1, Nat.min_self, -List.length_flatMap])
  refine s10_4 ?_
  simp -implicitDefEqProofs (disch := first | (refine NE.mk ?_; first | omega | assumption) | (refine LTn.mk ?_; omega) | (refine NFam.mk ?_; simp only [updO_same, notFam_cells]; omega)) [↓h10_5, ↓h10_5_1, Nat.min_self, -List.length_flatMap]
  refine wF_mono (k24 n x l _ (v1.keep (by (try dsimp only [keepOnly_eq]); omega) fun i hi => rfl) hlen) ?_
  rintro _ h2 q2
  obtain ⟨z, rfl, V2, hn2, ho2⟩ := told _ _ _ q2
  (try dsimp only at hn2 ho2)
  have V12 := V1.keep (by omega : h1.nx ≤ h2.nx) fun i hi => ho2 i (by omega)
  rw [← ho2 _ (by omega)] at p0 p1
  (try simp -implicitDefEqProofs (disch := first | (refine NE.mk ?_; first | omega | assumption) | (refine LTn.mk ?_; omega) | (refine NFam.mk ?_; simp only [updO_same, notFam_cells]; omega)) [↓h10_5, ↓h10_5_1, Nat.min_self, -List.length_flatMap])
  refine s10_6 ?_
  refine s10_7 ?_
  (try simp -implicitDefEqProofs (disch := first | (refine NE.mk ?_; first | omega | assumption) | (refine LTn.mk ?_; omega) | (refine NFam.mk ?_; simp only [o10_7_3, p0, p1, enC, enP, updO_same, notFam_cells]; omega)) [↓h10_7, ↓h10_7_1, ↓w10_7_2, ↓h10_7_2g, o10_7_3, p0, p1, enC, enP, Nat.min_self, -List.length_flatMap])
  refine wF_mono (k16 _) ?_
  rintro _ h3 ⟨rfl, rfl⟩
  (try simp -implicitDefEqProofs (disch := first | (refine NE.mk ?_; first | omega | assumption) | (refine LTn.mk ?_; omega) | (refine NFam.mk ?_; simp only [o10_7_3, p0, p1, enC, enP, updO_same, notFam_cells]; omega)) [↓h10_7, ↓h10_7_1, ↓w10_7_2, ↓h10_7_2g, o10_7_3, p0, p1, enC, enP, Nat.min_self, -List.length_flatMap])
  refine wF_mono (k14 c p _) ?_
  rintro _ h4 ⟨rfl, hn4, ho4⟩
  (try dsimp only at hn4 ho4)
  rw [← ho4 _ (by omega)] at p0 p1
  (try simp -implicitDefEqProofs (disch := first | (refine NE.mk ?_; first | omega | assumption) | (refine LTn.mk ?_; omega) | (refine NFam.mk ?_; simp only [o10_7_3, p0, p1, updO_same, notFam_cells]; omega)) [↓h10_7, ↓h10_7_1, ↓w10_7_2, ↓h10_7_2g, o10_7_3, p0, p1, Nat.min_self, -List.length_flatMap])
  refine ⟨⟨?_, ?_⟩, ?_⟩
  · exact hold_loadn (j := h.nx) (o := 0) (f := h.nx) (ro := false) (e := 26) (w := 0) (cs := [.int .i64 c.s, .int .i64 c.a, .int .i64 c.b]) (by simp -implicitDefEqProofs (disch := first | (refine NE.mk ?_; first | omega | assumption) | (refine LTn.mk ?_; omega) | (refine NFam.mk ?_; simp only [p0, p1, wants, updO_same, notFam_cells]; omega)) [p0, p1, wants, Nat.min_self, -List.length_flatMap]) (by simp -implicitDefEqProofs (disch := first | (refine NE.mk ?_; first | omega | assumption) | (refine LTn.mk ?_; omega) | (refine NFam.mk ?_; simp only [p0, p1, updO_same, notFam_cells]; omega)) [p0, p1, Nat.min_self, -List.length_flatMap]) (by simp -implicitDefEqProofs (disch := first | (refine NE.mk ?_; first | omega | assumption) | (refine LTn.mk ?_; omega) | (refine NFam.mk ?_; simp only [p0, p1, updO_same, notFam_cells]; omega)) [p0, p1, Nat.min_self, -List.length_flatMap]) (by simp -implicitDefEqProofs (disch := first | (refine NE.mk ?_; first | omega | assumption) | (refine LTn.mk ?_; omega) | (refine NFam.mk ?_; simp only [p0, p1, updO_same, notFam_cells]; omega)) [p0, p1, Nat.min_self, -List.length_flatMap]) (by simp)
  · exact hold_loadn (j := h.nx + 1) (o := 0) (f := h.nx + 1) (ro := false) (e := 31) (w := 0) (cs := [.int .i64 p.r, .bool p.i, .int .i64 p.a, .int .i64 p.b]) (by simp -implicitDefEqProofs (disch := first | (refine NE.mk ?_; first | omega | assumption) | (refine LTn.mk ?_; omega) | (refine NFam.mk ?_; simp only [p0, p1, wants, updO_same, notFam_cells]; omega)) [p0, p1, wants, Nat.min_self, -List.length_flatMap]) (by simp -implicitDefEqProofs (disch := first | (refine NE.mk ?_; first | omega | assumption) | (refine LTn.mk ?_; omega) | (refine NFam.mk ?_; simp only [p0, p1, updO_same, notFam_cells]; omega)) [p0, p1, Nat.min_self, -List.length_flatMap]) (by simp -implicitDefEqProofs (disch := first | (refine NE.mk ?_; first | omega | assumption) | (refine LTn.mk ?_; omega) | (refine NFam.mk ?_; simp only [p0, p1, updO_same, notFam_cells]; omega)) [p0, p1, Nat.min_self, -List.length_flatMap]) (by simp -implicitDefEqProofs (disch := first | (refine NE.mk ?_; first | omega | assumption) | (refine LTn.mk ?_; omega) | (refine NFam.mk ?_; simp only [p0, p1, updO_same, notFam_cells]; omega)) [p0, p1, Nat.min_self, -List.length_flatMap]) (by simp)
  (try simp -implicitDefEqProofs (disch := first | (refine NE.mk ?_; first | omega | assumption) | (refine LTn.mk ?_; omega) | (refine NFam.mk ?_; simp only [o10_7h1_3, p0, p1, updO_same, notFam_cells]; omega)) [↓w10_7h1, ↓h10_7h1g, ↓h10_7h1g_1, ↓h10_7h1_1, ↓w10_7h1_2, ↓h10_7h1_2g, o10_7h1_3, p0, p1, Nat.min_self, -List.length_flatMap])
  refine wF_mono (k19 c p _) ?_
  rintro _ h5 ⟨rfl, hn5, ho5⟩
  (try dsimp only at hn5 ho5)
  rw [← ho5 _ (by omega)] at p0 p1
  have e1 := eqc_enC (feedS c p) (feedS c p)
  (try simp -implicitDefEqProofs (disch := first | (refine NE.mk ?_; first | omega | assumption) | (refine LTn.mk ?_; omega) | (refine NFam.mk ?_; simp only [o10_7h1_3, p0, p1, e1, updO_same, notFam_cells]; omega)) [↓w10_7h1, ↓h10_7h1g, ↓h10_7h1g_1, ↓h10_7h1_1, ↓w10_7h1_2, ↓h10_7h1_2g, o10_7h1_3, p0, p1, e1, Nat.min_self, -List.length_flatMap])
  refine wF_mono (k18 c _) ?_
  rintro _ h6 ⟨rfl, hn6, ho6⟩
  (try dsimp only at hn6 ho6)
  rw [← ho6 _ (by omega)] at p0 p1
  have e2 := eqc_enC (resetS c) (resetS c)
  (try simp -implicitDefEqProofs (disch := first | (refine NE.mk ?_; first | omega | assumption) | (refine LTn.mk ?_; omega) | (refine NFam.mk ?_; simp only [o10_7h1_3, p0, p1, e2, updO_same, notFam_cells]; omega)) [↓w10_7h1, ↓h10_7h1g, ↓h10_7h1g_1, ↓h10_7h1_1, ↓w10_7h1_2, ↓h10_7h1_2g, o10_7h1_3, p0, p1, e2, Nat.min_self, -List.length_flatMap])
  refine ⟨?_, ?_⟩
  · exact hold_loadn (j := h.nx) (o := 0) (f := h.nx) (ro := false) (e := 26) (w := 0) (cs := [.int .i64 c.s, .int .i64 c.a, .int .i64 c.b]) (by simp -implicitDefEqProofs (disch := first | (refine NE.mk ?_; first | omega | assumption) | (refine LTn.mk ?_; omega) | (refine NFam.mk ?_; simp only [p0, p1, e2, wants, updO_same, notFam_cells]; omega)) [p0, p1, e2, wants, Nat.min_self, -List.length_flatMap]) (by simp -implicitDefEqProofs (disch := first | (refine NE.mk ?_; first | omega | assumption) | (refine LTn.mk ?_; omega) | (refine NFam.mk ?_; simp only [p0, p1, e2, updO_same, notFam_cells]; omega)) [p0, p1, e2, Nat.min_self, -List.length_flatMap]) (by simp -implicitDefEqProofs (disch := first | (refine NE.mk ?_; first | omega | assumption) | (refine LTn.mk ?_; omega) | (refine NFam.mk ?_; simp only [p0, p1, e2, updO_same, notFam_cells]; omega)) [p0, p1, e2, Nat.min_self, -List.length_flatMap]) (by simp -implicitDefEqProofs (disch := first | (refine NE.mk ?_; first | omega | assumption) | (refine LTn.mk ?_; omega) | (refine NFam.mk ?_; simp only [p0, p1, e2, updO_same, notFam_cells]; omega)) [p0, p1, e2, Nat.min_self, -List.length_flatMap]) (by simp)
  (try simp -implicitDefEqProofs (disch := first | (refine NE.mk ?_; first | omega | assumption) | (refine LTn.mk ?_; omega) | (refine NFam.mk ?_; simp only [o10_7h2_3, p0, p1, e2, updO_same, notFam_cells]; omega)) [↓w10_7h2, ↓h10_7h2g, ↓h10_7h2g_1, ↓h10_7h2_1, ↓w10_7h2_2, ↓h10_7h2_2g, o10_7h2_3, p0, p1, e2, Nat.min_self, -List.length_flatMap])
  refine wF_mono (k21 c _) ?_
  rintro _ h7 ⟨rfl, hn7, ho7⟩
  (try dsimp only at hn7 ho7)
  rw [← ho7 _ (by omega)] at p0 p1
  (try simp -implicitDefEqProofs (disch := first | (refine NE.mk ?_; first | omega | assumption) | (refine LTn.mk ?_; omega) | (refine NFam.mk ?_; simp only [o10_7h2_3, p0, p1, e2, updO_same, notFam_cells]; omega)) [↓w10_7h2, ↓h10_7h2g, ↓h10_7h2g_1, ↓h10_7h2_1, ↓w10_7h2_2, ↓h10_7h2_2g, o10_7h2_3, p0, p1, e2, Nat.min_self, -List.length_flatMap])
  refine wF_mono (k15 c _) ?_
  rintro _ h8 ⟨rfl, hn8, ho8⟩
  (try dsimp only at hn8 ho8)
  rw [← ho8 _ (by omega)] at p0 p1
  (try simp -implicitDefEqProofs (disch := first | (refine NE.mk ?_; first | omega | assumption) | (refine LTn.mk ?_; omega) | (refine NFam.mk ?_; simp only [o10_7h2_3, p0, p1, updO_same, notFam_cells]; omega)) [↓w10_7h2, ↓h10_7h2g, ↓h10_7h2g_1, ↓h10_7h2_1, ↓w10_7h2_2, ↓h10_7h2_2g, o10_7h2_3, p0, p1, Nat.min_self, -List.length_flatMap])
  refine ⟨?_, ?_⟩
  · exact hold_loadn (j := h.nx) (o := 0) (f := h.nx) (ro := false) (e := 26) (w := 0) (cs := [.int .i64 c.s, .int .i64 c.a, .int .i64 c.b]) (by simp -implicitDefEqProofs (disch := first | (refine NE.mk ?_; first | omega | assumption) | (refine LTn.mk ?_; omega) | (refine NFam.mk ?_; simp only [p0, p1, wants, updO_same, notFam_cells]; omega)) [p0, p1, wants, Nat.min_self, -List.length_flatMap]) (by simp -implicitDefEqProofs (disch := first | (refine NE.mk ?_; first | omega | assumption) | (refine LTn.mk ?_; omega) | (refine NFam.mk ?_; simp only [p0, p1, updO_same, notFam_cells]; omega)) [p0, p1, Nat.min_self, -List.length_flatMap]) (by simp -implicitDefEqProofs (disch := first | (refine NE.mk ?_; first | omega | assumption) | (refine LTn.mk ?_; omega) | (refine NFam.mk ?_; simp only [p0, p1, updO_same, notFam_cells]; omega)) [p0, p1, Nat.min_self, -List.length_flatMap]) (by simp -implicitDefEqProofs (disch := first | (refine NE.mk ?_; first | omega | assumption) | (refine LTn.mk ?_; omega) | (refine NFam.mk ?_; simp only [p0, p1, updO_same, notFam_cells]; omega)) [p0, p1, Nat.min_self, -List.length_flatMap]) (by simp)
  (try simp -implicitDefEqProofs (disch := first | (refine NE.mk ?_; first | omega | assumption) | (refine LTn.mk ?_; omega) | (refine NFam.mk ?_; simp only [p0, p1, updO_same, notFam_cells]; omega)) [↓w10_7h3, ↓h10_7h3g, ↓h10_7h3g_1, ↓h10_7h3_1, ↓w10_7h3_2, ↓h10_7h3_2g, ↓h10_7h3_3, ↓w10_7h3_4, ↓h10_7h3_4g, ↓h10_7h3_5, p0, p1, Nat.min_self, -List.length_flatMap])
  refine wF_mono (k20 c _) ?_
  rintro _ h9 ⟨rfl, hn9, ho9⟩
  (try dsimp only at hn9 ho9)
  have keep : ∀ i, i < h2.nx → h9.o i = h2.o i := fun i hi => by rw [ho9 i (by omega), ho8 i (by omega), ho7 i (by omega), ho6 i (by omega), ho5 i (by omega), ho4 i (by omega)]
  have W1 := V12.keep (by omega : h2.nx ≤ h9.nx) keep
  have W2 := V2.keep (by omega : h2.nx ≤ h9.nx) keep
  (try simp -implicitDefEqProofs (disch := first | (refine NE.mk ?_; first | omega | assumption) | (refine LTn.mk ?_; omega) | (refine NFam.mk ?_; simp only [p0, p1, updO_same, notFam_cells]; omega)) [↓w10_7h3, ↓h10_7h3g, ↓h10_7h3g_1, ↓h10_7h3_1, ↓w10_7h3_2, ↓h10_7h3_2g, ↓h10_7h3_3, ↓w10_7h3_4, ↓h10_7h3_4g, ↓h10_7h3_5, p0, p1, Nat.min_self, -List.length_flatMap])
  refine wF_mono (k25 y z _ _ _ W1 W2 hLl) ?_
  rintro _ h10 ⟨rfl, hn10, ho10⟩
  (try simp -implicitDefEqProofs (disch := first | (refine NE.mk ?_; first | omega | assumption) | (refine LTn.mk ?_; omega) | (refine NFam.mk ?_; simp only [p0, p1, updO_same, notFam_cells]; omega)) [↓w10_7h3, ↓h10_7h3g, ↓h10_7h3g_1, ↓h10_7h3_1, ↓w10_7h3_2, ↓h10_7h3_2g, ↓h10_7h3_3, ↓w10_7h3_4, ↓h10_7h3_4g, ↓h10_7h3_5, p0, p1, Nat.min_self, -List.length_flatMap])
  refine hQ _ _ _ (.inr rfl) rfl ?_
  (try simp -implicitDefEqProofs (disch := first | (refine NE.mk ?_; first | omega | assumption) | (refine LTn.mk ?_; omega) | (refine NFam.mk ?_; simp only [p0, p1, updO_same, notFam_cells]; omega)) [p0, p1, Nat.min_self, -List.length_flatMap])
end Go.Proofs.Ytellgcahkpaldaa.Fn
