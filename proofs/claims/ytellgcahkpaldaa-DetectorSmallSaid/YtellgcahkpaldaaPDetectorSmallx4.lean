-- PRINTED BY print.sh 35421559b90ae4d0a3588c463048766b98c2df88dd9212a6774a882060cdf62d: not written by this session
import Derived.Test.YtellgcahkpaldaaPDetectorSmallx0
import Derived.Test.YtellgcahkpaldaaPDetectorSmallx3
namespace Go.Proofs.Ytellgcahkpaldaa.PDetectorSmall
open Go.RowKit Go.Proofs.YtellgcahkpaldaaW.PrintWords Go.Proofs.YtellgcahkpaldaaW.PrintLast Go.Proofs.YtellgcahkpaldaaW.PrintMore
attribute [local go_sem] max2_int min2_int max_two min_two max_three min_three max_four min_four   -- for this text's walks alone
set_option linter.unusedVariables false
set_option linter.unusedSimpArgs false

/-! ### railplanref30_Feed: function 19 -/
mutual
def railplanref30_Feed.j0 : Nat → Bool → Int → Int → Int → Int → Bool → Int → Int → Option (Int × Int × Int)
  | 0, _, _, _, _, _, _, _, _ => none
  | k + 1, x25, x125000, x125001, x125002, x126000, x126001, x126002, x126003 => if x25 = true then (some (1, 0, 0)) else (if x126001 = true then (railplanref30_Feed.j1 k (wrap64 (x125001 + x126002)) x125000 x125001 x125002 x126000 x126001 x126002 x126003) else (railplanref30_Feed.j1 k (wrap64 (x125001 - x126002)) x125000 x125001 x125002 x126000 x126001 x126002 x126003))
def railplanref30_Feed.j1 : Nat → Int → Int → Int → Int → Int → Bool → Int → Int → Option (Int × Int × Int)
  | 0, _, _, _, _, _, _, _, _ => none
  | k + 1, x5, x125000, x125001, x125002, x126000, x126001, x126002, x126003 => if x5 < 0 then (railplanref30_Feed.j2 k x5 true x125000 x125001 x125002 x126000 x126001 x126002 x126003) else (railplanref30_Feed.j2 k x5 (decide (x5 > 1600)) x125000 x125001 x125002 x126000 x126001 x126002 x126003)
def railplanref30_Feed.j2 : Nat → Int → Bool → Int → Int → Int → Int → Bool → Int → Int → Option (Int × Int × Int)
  | 0, _, _, _, _, _, _, _, _, _ => none
  | k + 1, x5, x44, x125000, x125001, x125002, x126000, x126001, x126002, x126003 => if x44 = true then (some (1, 0, 0)) else (if x125000 = 2 then (if x126001 = true then (some (x125000, x5, x5)) else (if x5 = 0 then (some (0, 0, 0)) else (some (x125000, x5, x5)))) else (some (x125000, x5, x5)))
end
def railplanref30_Feed.f (k : Nat) (a0_0 : Int) (a0_1 : Int) (a0_2 : Int) (a1_0 : Int) (a1_1 : Bool) (a1_2 : Int) (a1_3 : Int) : Option (Int × Int × Int) := (railplanref30_sound.f a0_0 a0_1 a0_2).bind fun t127 => (if t127 = true then (if a1_2 = a1_3 then (if a1_2 < 1 then (railplanref30_Feed.j0 k true a0_0 a0_1 a0_2 a1_0 a1_1 a1_2 a1_3) else (railplanref30_Feed.j0 k (decide (a1_2 > 400)) a0_0 a0_1 a0_2 a1_0 a1_1 a1_2 a1_3)) else (railplanref30_Feed.j0 k true a0_0 a0_1 a0_2 a1_0 a1_1 a1_2 a1_3)) else (railplanref30_Feed.j0 k true a0_0 a0_1 a0_2 a1_0 a1_1 a1_2 a1_3))
theorem railplanref30_Feed.mono_l : ∀ k, (∀ y0 y1 y2 y3 y4 y5 y6 y7, LeO (railplanref30_Feed.j0 k y0 y1 y2 y3 y4 y5 y6 y7) (railplanref30_Feed.j0 (k + 1) y0 y1 y2 y3 y4 y5 y6 y7)) ∧ (∀ y0 y1 y2 y3 y4 y5 y6 y7, LeO (railplanref30_Feed.j1 k y0 y1 y2 y3 y4 y5 y6 y7) (railplanref30_Feed.j1 (k + 1) y0 y1 y2 y3 y4 y5 y6 y7)) ∧ (∀ y0 y1 y2 y3 y4 y5 y6 y7 y8, LeO (railplanref30_Feed.j2 k y0 y1 y2 y3 y4 y5 y6 y7 y8) (railplanref30_Feed.j2 (k + 1) y0 y1 y2 y3 y4 y5 y6 y7 y8))
  | 0 => ⟨fun _ _ _ _ _ _ _ _ r h => by simp [railplanref30_Feed.j0] at h, fun _ _ _ _ _ _ _ _ r h => by simp [railplanref30_Feed.j1] at h, fun _ _ _ _ _ _ _ _ _ r h => by simp [railplanref30_Feed.j2] at h⟩
  | k + 1 => by
    obtain ⟨ih0, ih1, ih2⟩ := railplanref30_Feed.mono_l k
    refine ⟨?_, ?_, ?_⟩
    · intro y0 y1 y2 y3 y4 y5 y6 y7
      unfold railplanref30_Feed.j0
      repeat' first
      | (with_reducible exact ih0 _ _ _ _ _ _ _ _)
      | (with_reducible exact ih1 _ _ _ _ _ _ _ _)
      | (with_reducible exact ih2 _ _ _ _ _ _ _ _ _)
      | (with_reducible exact LeO.refl _)
      | (with_reducible exact LeO.none _)
      | (with_reducible refine LeO.ite ?_ ?_)
      | (with_reducible refine LeO.bind ?_ (fun _ => ?_))
      | exact ih0 _ _ _ _ _ _ _ _
      | exact ih1 _ _ _ _ _ _ _ _
      | exact ih2 _ _ _ _ _ _ _ _ _
      | exact LeO.none _
      | refine LeO.ite ?_ ?_
      | refine LeO.bind ?_ (fun _ => ?_)
    · intro y0 y1 y2 y3 y4 y5 y6 y7
      unfold railplanref30_Feed.j1
      repeat' first
      | (with_reducible exact ih0 _ _ _ _ _ _ _ _)
      | (with_reducible exact ih1 _ _ _ _ _ _ _ _)
      | (with_reducible exact ih2 _ _ _ _ _ _ _ _ _)
      | (with_reducible exact LeO.refl _)
      | (with_reducible exact LeO.none _)
      | (with_reducible refine LeO.ite ?_ ?_)
      | (with_reducible refine LeO.bind ?_ (fun _ => ?_))
      | exact ih0 _ _ _ _ _ _ _ _
      | exact ih1 _ _ _ _ _ _ _ _
      | exact ih2 _ _ _ _ _ _ _ _ _
      | exact LeO.none _
      | refine LeO.ite ?_ ?_
      | refine LeO.bind ?_ (fun _ => ?_)
    · intro y0 y1 y2 y3 y4 y5 y6 y7 y8
      unfold railplanref30_Feed.j2
      repeat' first
      | (with_reducible exact ih0 _ _ _ _ _ _ _ _)
      | (with_reducible exact ih1 _ _ _ _ _ _ _ _)
      | (with_reducible exact ih2 _ _ _ _ _ _ _ _ _)
      | (with_reducible exact LeO.refl _)
      | (with_reducible exact LeO.none _)
      | (with_reducible refine LeO.ite ?_ ?_)
      | (with_reducible refine LeO.bind ?_ (fun _ => ?_))
      | exact ih0 _ _ _ _ _ _ _ _
      | exact ih1 _ _ _ _ _ _ _ _
      | exact ih2 _ _ _ _ _ _ _ _ _
      | exact LeO.none _
      | refine LeO.ite ?_ ?_
      | refine LeO.bind ?_ (fun _ => ?_)
theorem railplanref30_Feed.mono : ∀ a0 a1 a2 a3 a4 a5 a6 k, LeO (railplanref30_Feed.f k a0 a1 a2 a3 a4 a5 a6) (railplanref30_Feed.f (k + 1) a0 a1 a2 a3 a4 a5 a6) := by
  intro a0 a1 a2 a3 a4 a5 a6 k
  obtain ⟨ih0, ih1, ih2⟩ := railplanref30_Feed.mono_l k
  unfold railplanref30_Feed.f
  repeat' first
      | (with_reducible exact ih0 _ _ _ _ _ _ _ _)
      | (with_reducible exact ih1 _ _ _ _ _ _ _ _)
      | (with_reducible exact ih2 _ _ _ _ _ _ _ _ _)
      | (with_reducible exact LeO.refl _)
      | (with_reducible exact LeO.none _)
      | (with_reducible refine LeO.ite ?_ ?_)
      | (with_reducible refine LeO.bind ?_ (fun _ => ?_))
      | exact ih0 _ _ _ _ _ _ _ _
      | exact ih1 _ _ _ _ _ _ _ _
      | exact ih2 _ _ _ _ _ _ _ _ _
      | exact LeO.none _
      | refine LeO.ite ?_ ?_
      | refine LeO.bind ?_ (fun _ => ?_)
set_option maxHeartbeats 8000000 in
set_option maxRecDepth 100000 in
theorem railplanref30_Feed.calls (k : Nat) (a0_0 : Int) (a0_1 : Int) (a0_2 : Int) (a1_0 : Int) (a1_1 : Bool) (a1_2 : Int) (a1_3 : Int) (r1 : Int) (r2 : Int) (r3 : Int) (w : World) (h : railplanref30_Feed.f k a0_0 a0_1 a0_2 a1_0 a1_1 a1_2 a1_3 = some (r1, r2, r3)) :
    Calls Try.prog 19 #[.agg #[.int .i64 a0_0, .int .i64 a0_1, .int .i64 a0_2], .agg #[.int .i64 a1_0, .bool a1_1, .int .i64 a1_2, .int .i64 a1_3]] w fun e w' => e = .returned (.agg #[.int .i64 r1, .int .i64 r2, .int .i64 r3]) ∧ Below w.heap.size w w' := by
  have hu26 := Try.underlying26
  have hu31 := Try.underlying31
  have HB := Aside0.mk (Below.refl w.heap.size w)
  have H : ((railplanref30_sound.f a0_0 a0_1 a0_2).bind fun t127 => (if t127 = true then (if a1_2 = a1_3 then (if a1_2 < 1 then (railplanref30_Feed.j0 k true a0_0 a0_1 a0_2 a1_0 a1_1 a1_2 a1_3) else (railplanref30_Feed.j0 k (decide (a1_2 > 400)) a0_0 a0_1 a0_2 a1_0 a1_1 a1_2 a1_3)) else (railplanref30_Feed.j0 k true a0_0 a0_1 a0_2 a1_0 a1_1 a1_2 a1_3)) else (railplanref30_Feed.j0 k true a0_0 a0_1 a0_2 a1_0 a1_1 a1_2 a1_3))) = some (r1, r2, r3) := h
  clear h
  have HC3 := Aside0.mk H
  clear H
  go_enter Try.func19, Try.ntmps19
  go_upto_region 1 with (first | ((with_reducible refine gate_dst (N := 2) rfl ?_); refine box_event ?hg (N := 2) ?hd (cs := #[.int .i64 a0_0, .int .i64 a0_1, .int .i64 a0_2]) (t := 26) ?hr ?_; (case hd => rfl); (case hg => rfl); (case hr => first | (go_simp; done) | (go_simp; rfl)); intro gb124 hg w4 hbox hb; have n0_ := Aside0.mk (below_step (by repeat (first | (with_reducible first | exact HB.out | apply below_alloc | apply pw_below_drewN | apply below_drew1) | exact HB.out)) hb); have n1_ := Aside0.mk (hbox); have n2_ := Aside0.mk ((by rw [hg]; exact (below_size (by repeat (first | (with_reducible first | exact HB.out | apply below_alloc | apply pw_below_drewN | apply below_drew1) | exact HB.out))) : w.heap.size ≤ gb124)); have n3_ := Aside0.mk ((by rw [hg]; exact (below_size (by repeat (first | (with_reducible first | exact HB.out | apply below_alloc | apply pw_below_drewN | apply below_drew1) | exact HB.out))) : w.heap.size ≤ gb124)); clear HB; have HB := n0_; have BK124 := n1_; have GW124 := n2_; have GE124 := n3_; clear n0_ n1_ n2_ n3_; clear hb hbox hg) | ((with_reducible refine gate_dst (N := 3) rfl ?_); refine box_event ?hg (N := 3) ?hd (cs := #[.int .i64 a1_0, .bool a1_1, .int .i64 a1_2, .int .i64 a1_3]) (t := 31) ?hr ?_; (case hd => rfl); (case hg => rfl); (case hr => first | (go_simp; done) | (go_simp; rfl)); intro gb125 hg w5 hbox hb; have n0_ := Aside0.mk (blk_below (g := gb124) (o := .cells #[.int .i64 a0_0, .int .i64 a0_1, .int .i64 a0_2] 26 (0, 0)) (by (with_reducible repeat (first | refine blk_drewN ?_ _ | refine blk_drew ?_ | refine blk_alloc ?_ _)); exact BK124.out) hb); have n1_ := Aside0.mk (below_step (by repeat (first | (with_reducible first | exact HB.out | apply below_alloc | apply pw_below_drewN | apply below_drew1 | refine below_set ?_ GE124.out) | exact HB.out)) hb); have n2_ := Aside0.mk (hbox); have n3_ := Aside0.mk ((by rw [hg]; exact (below_size (by repeat (first | (with_reducible first | exact HB.out | apply below_alloc | apply pw_below_drewN | apply below_drew1 | refine below_set ?_ GE124.out) | exact HB.out))) : w.heap.size ≤ gb125)); have n4_ := Aside0.mk ((by rw [hg]; exact (below_size (by repeat (first | (with_reducible first | exact HB.out | apply below_alloc | apply pw_below_drewN | apply below_drew1 | refine below_set ?_ GE124.out) | exact HB.out))) : w.heap.size ≤ gb125)); have n5_ := Aside0.mk ((by rw [hg]; exact Nat.ne_of_lt (blk_lt (g := gb124) (o := .cells #[.int .i64 a0_0, .int .i64 a0_1, .int .i64 a0_2] 26 (0, 0)) (by (with_reducible repeat (first | refine blk_drewN ?_ _ | refine blk_drew ?_ | refine blk_alloc ?_ _)); exact BK124.out)) : gb124 ≠ gb125)); have n6_ := Aside0.mk ((by rw [hg]; exact Nat.ne_of_gt (blk_lt (g := gb124) (o := .cells #[.int .i64 a0_0, .int .i64 a0_1, .int .i64 a0_2] 26 (0, 0)) (by (with_reducible repeat (first | refine blk_drewN ?_ _ | refine blk_drew ?_ | refine blk_alloc ?_ _)); exact BK124.out)) : gb125 ≠ gb124)); clear BK124; clear HB; have BK124 := n0_; have HB := n1_; have BK125 := n2_; have GW125 := n3_; have GE125 := n4_; have NB124_125 := n5_; have NB125_124 := n6_; clear n0_ n1_ n2_ n3_ n4_ n5_ n6_; clear hb hbox hg) | ((with_reducible refine gate_dst (N := 4) rfl ?_); refine box_event ?hg (N := 4) ?hd (cs := #[.int .i64 0, .int .i64 0, .int .i64 0]) (t := 26) ?hr ?_; (case hd => rfl); (case hg => rfl); (case hr => first | (go_simp; done) | (go_simp; rfl)); intro gb126 hg w6 hbox hb; have n0_ := Aside0.mk (blk_below (g := gb124) (o := .cells #[.int .i64 a0_0, .int .i64 a0_1, .int .i64 a0_2] 26 (0, 0)) (by (with_reducible repeat (first | refine blk_drewN ?_ _ | refine blk_drew ?_ | refine blk_alloc ?_ _)); exact BK124.out) hb); have n1_ := Aside0.mk (blk_below (g := gb125) (o := .cells #[.int .i64 a1_0, .bool a1_1, .int .i64 a1_2, .int .i64 a1_3] 31 (0, 0)) (by (with_reducible repeat (first | refine blk_drewN ?_ _ | refine blk_drew ?_ | refine blk_alloc ?_ _)); exact BK125.out) hb); have n2_ := Aside0.mk (below_step (by repeat (first | (with_reducible first | exact HB.out | apply below_alloc | apply pw_below_drewN | apply below_drew1 | refine below_set ?_ GE124.out | refine below_set ?_ GE125.out) | exact HB.out)) hb); have n3_ := Aside0.mk (hbox); have n4_ := Aside0.mk ((by rw [hg]; exact (below_size (by repeat (first | (with_reducible first | exact HB.out | apply below_alloc | apply pw_below_drewN | apply below_drew1 | refine below_set ?_ GE124.out | refine below_set ?_ GE125.out) | exact HB.out))) : w.heap.size ≤ gb126)); have n5_ := Aside0.mk ((by rw [hg]; exact (below_size (by repeat (first | (with_reducible first | exact HB.out | apply below_alloc | apply pw_below_drewN | apply below_drew1 | refine below_set ?_ GE124.out | refine below_set ?_ GE125.out) | exact HB.out))) : w.heap.size ≤ gb126)); have n6_ := Aside0.mk ((by rw [hg]; exact Nat.ne_of_lt (blk_lt (g := gb124) (o := .cells #[.int .i64 a0_0, .int .i64 a0_1, .int .i64 a0_2] 26 (0, 0)) (by (with_reducible repeat (first | refine blk_drewN ?_ _ | refine blk_drew ?_ | refine blk_alloc ?_ _)); exact BK124.out)) : gb124 ≠ gb126)); have n7_ := Aside0.mk ((by rw [hg]; exact Nat.ne_of_gt (blk_lt (g := gb124) (o := .cells #[.int .i64 a0_0, .int .i64 a0_1, .int .i64 a0_2] 26 (0, 0)) (by (with_reducible repeat (first | refine blk_drewN ?_ _ | refine blk_drew ?_ | refine blk_alloc ?_ _)); exact BK124.out)) : gb126 ≠ gb124)); have n8_ := Aside0.mk ((by rw [hg]; exact Nat.ne_of_lt (blk_lt (g := gb125) (o := .cells #[.int .i64 a1_0, .bool a1_1, .int .i64 a1_2, .int .i64 a1_3] 31 (0, 0)) (by (with_reducible repeat (first | refine blk_drewN ?_ _ | refine blk_drew ?_ | refine blk_alloc ?_ _)); exact BK125.out)) : gb125 ≠ gb126)); have n9_ := Aside0.mk ((by rw [hg]; exact Nat.ne_of_gt (blk_lt (g := gb125) (o := .cells #[.int .i64 a1_0, .bool a1_1, .int .i64 a1_2, .int .i64 a1_3] 31 (0, 0)) (by (with_reducible repeat (first | refine blk_drewN ?_ _ | refine blk_drew ?_ | refine blk_alloc ?_ _)); exact BK125.out)) : gb126 ≠ gb125)); clear BK124; clear BK125; clear HB; have BK124 := n0_; have BK125 := n1_; have HB := n2_; have BK126 := n3_; have GW126 := n4_; have GE126 := n5_; have NB124_126 := n6_; have NB126_124 := n7_; have NB125_126 := n8_; have NB126_125 := n9_; clear n0_ n1_ n2_ n3_ n4_ n5_ n6_ n7_ n8_ n9_; clear hb hbox hg))
  (try simp only [Act.put, List.setIfInBounds_toArray, List.set_cons_zero, List.set_cons_succ])
  go_cut [25] (fun v25 wc => ∃ (kq : Nat) (x25_2 : Bool), v25 = .bool x25_2 ∧ Aside0 (railplanref30_Feed.j0 kq x25_2 a0_0 a0_1 a0_2 a1_0 a1_1 a1_2 a1_3 = some (r1, r2, r3)) ∧ Aside0 (kq ≤ k) ∧ Aside0 (wc.heap[gb124]? = some (.cells #[.int .i64 a0_0, .int .i64 a0_1, .int .i64 a0_2] 26 (0, 0))) ∧ Aside0 (wc.heap[gb125]? = some (.cells #[.int .i64 a1_0, .bool a1_1, .int .i64 a1_2, .int .i64 a1_3] 31 (0, 0))) ∧ Aside0 (wc.heap[gb126]? = some (.cells #[.int .i64 0, .int .i64 0, .int .i64 0] 26 (0, 0))) ∧ Aside0 (Below w.heap.size w wc))
  case first =>
    have H := HC3.out
    clear HC3
    replace H := Option.bind_eq_some_iff.mp H
    obtain ⟨t127, A70, H⟩ := H
    replace H : (if t127 = true then (if a1_2 = a1_3 then (if a1_2 < 1 then (railplanref30_Feed.j0 k true a0_0 a0_1 a0_2 a1_0 a1_1 a1_2 a1_3) else (railplanref30_Feed.j0 k (decide (a1_2 > 400)) a0_0 a0_1 a0_2 a1_0 a1_1 a1_2 a1_3)) else (railplanref30_Feed.j0 k true a0_0 a0_1 a0_2 a1_0 a1_1 a1_2 a1_3)) else (railplanref30_Feed.j0 k true a0_0 a0_1 a0_2 a1_0 a1_1 a1_2 a1_3)) = some (r1, r2, r3) := H
    have A7 := Aside0.mk A70
    clear A70
    by_cases c8 : t127 = true
    · subst c8
      have H1 : (if a1_2 = a1_3 then (if a1_2 < 1 then (railplanref30_Feed.j0 k true a0_0 a0_1 a0_2 a1_0 a1_1 a1_2 a1_3) else (railplanref30_Feed.j0 k (decide (a1_2 > 400)) a0_0 a0_1 a0_2 a1_0 a1_1 a1_2 a1_3)) else (railplanref30_Feed.j0 k true a0_0 a0_1 a0_2 a1_0 a1_1 a1_2 a1_3)) = some (r1, r2, r3) := by rw [if_pos rfl] at H; exact H
      clear H
      have H := H1
      clear H1
      by_cases c9 : a1_2 = a1_3
      · rw [if_pos c9] at H
        have c9b0 : (a1_2 == a1_3) = true := beq_iff_eq.mpr c9
        have c9b1 : (a1_2 != a1_3) = false := bne_eq_false_iff_eq.mpr c9
        clear c9
        (first | rw [c9b0] | (simp only [i64_w, i32_w]; rw [c9b0]) | skip)
        by_cases c10 : a1_2 < 1
        · rw [if_pos c10] at H
          have c10b0 : decide (a1_2 < 1) = true := decide_eq_true c10
          clear c10
          have H' := Aside0.mk H
          clear H
          have hnb11 := NB124_125.out
          have hnc11 := NB125_124.out
          have hnb12 := NB124_126.out
          have hnc12 := NB126_124.out
          have hcz13_0 : w6.cell? ⟨gb124, 0, none⟩ = some (.int .i64 a0_0) := (blk_cell BK124.out 0).trans rfl
          have hcz13_1 : w6.cell? ⟨gb124, 1, none⟩ = some (.int .i64 a0_1) := (blk_cell BK124.out 1).trans rfl
          have hcz13_2 : w6.cell? ⟨gb124, 2, none⟩ = some (.int .i64 a0_2) := (blk_cell BK124.out 2).trans rfl
          have hfz13_0 := blk_frozen BK124.out 0
          have hfz13_1 := blk_frozen BK124.out 1
          have hfz13_2 := blk_frozen BK124.out 2
          go_wp2_with (first | ((with_reducible refine gate_callee (f := 28) rfl ?_); refine goesL_ (some 7) rfl rfl Try.func28 (by kernel_rfl) rfl #[.agg #[.int .i64 a0_0, .int .i64 a0_1, .int .i64 a0_2]] rfl (by (try simp only [List.map_toArray, List.map_cons, List.map_nil]); first | done | rfl | (simp only [List.length_drop, List.length_take]; rfl)) ?_; (with_reducible refine (railplanref30_sound.calls a0_0 a0_1 a0_2 true _ A7.out).mono ?_); rintro e w14 ⟨rfl, hb⟩; refine ⟨_, rfl, ?_⟩; have n0_ := Aside0.mk (blk_below (g := gb124) (o := .cells #[.int .i64 a0_0, .int .i64 a0_1, .int .i64 a0_2] 26 (0, 0)) (by (with_reducible repeat (first | refine blk_drewN ?_ _ | refine blk_drew ?_ | refine blk_alloc ?_ _)); exact BK124.out) hb); have n1_ := Aside0.mk (blk_below (g := gb125) (o := .cells #[.int .i64 a1_0, .bool a1_1, .int .i64 a1_2, .int .i64 a1_3] 31 (0, 0)) (by (with_reducible repeat (first | refine blk_drewN ?_ _ | refine blk_drew ?_ | refine blk_alloc ?_ _)); exact BK125.out) hb); have n2_ := Aside0.mk (blk_below (g := gb126) (o := .cells #[.int .i64 0, .int .i64 0, .int .i64 0] 26 (0, 0)) (by (with_reducible repeat (first | refine blk_drewN ?_ _ | refine blk_drew ?_ | refine blk_alloc ?_ _)); exact BK126.out) hb); have n3_ := Aside0.mk (below_step (by repeat (first | (with_reducible first | exact HB.out | apply below_alloc | apply pw_below_drewN | apply below_drew1 | refine below_set ?_ GE124.out | refine below_set ?_ GE125.out | refine below_set ?_ GE126.out) | exact HB.out)) hb); clear BK124; clear BK125; clear BK126; clear HB; have BK124 := n0_; have BK125 := n1_; have BK126 := n2_; have HB := n3_; clear n0_ n1_ n2_ n3_; (try clear hb); (try clear hb2); (try clear hk); (try clear hi); have hnb15 := NB125_126.out; have hnc15 := NB126_125.out; have hcz16_0 : w14.cell? ⟨gb125, 0, none⟩ = some (.int .i64 a1_0) := (blk_cell BK125.out 0).trans rfl; have hcz16_1 : w14.cell? ⟨gb125, 1, none⟩ = some (.bool a1_1) := (blk_cell BK125.out 1).trans rfl; have hcz16_2 : w14.cell? ⟨gb125, 2, none⟩ = some (.int .i64 a1_2) := (blk_cell BK125.out 2).trans rfl; have hcz16_3 : w14.cell? ⟨gb125, 3, none⟩ = some (.int .i64 a1_3) := (blk_cell BK125.out 3).trans rfl; have hfz16_0 := blk_frozen BK125.out 0; have hfz16_1 := blk_frozen BK125.out 1; have hfz16_2 := blk_frozen BK125.out 2; have hfz16_3 := blk_frozen BK125.out 3))
          go_meet
          case rel => exact ⟨_, (true), (by first | rfl | (simp; done) | (simp [*]; done)), H', ⟨by first | omega | exact Nat.le_refl _⟩, ⟨by (with_reducible repeat (first | refine blk_drewN ?_ _ | refine blk_drew ?_ | refine blk_alloc ?_ _)); exact BK124.out⟩, ⟨by (with_reducible repeat (first | refine blk_drewN ?_ _ | refine blk_drew ?_ | refine blk_alloc ?_ _)); exact BK125.out⟩, ⟨by (with_reducible repeat (first | refine blk_drewN ?_ _ | refine blk_drew ?_ | refine blk_alloc ?_ _)); exact BK126.out⟩, ⟨by repeat (first | (with_reducible first | exact HB.out | apply below_alloc | apply pw_below_drewN | apply below_drew1 | refine below_set ?_ GE124.out | refine below_set ?_ GE125.out | refine below_set ?_ GE126.out) | exact HB.out)⟩⟩
        · rw [if_neg c10] at H
          have c10b0 : decide (a1_2 < 1) = false := decide_eq_false c10
          clear c10
          have H' := Aside0.mk H
          clear H
          have hnb17 := NB124_125.out
          have hnc17 := NB125_124.out
          have hnb18 := NB124_126.out
          have hnc18 := NB126_124.out
          have hcz19_0 : w6.cell? ⟨gb124, 0, none⟩ = some (.int .i64 a0_0) := (blk_cell BK124.out 0).trans rfl
          have hcz19_1 : w6.cell? ⟨gb124, 1, none⟩ = some (.int .i64 a0_1) := (blk_cell BK124.out 1).trans rfl
          have hcz19_2 : w6.cell? ⟨gb124, 2, none⟩ = some (.int .i64 a0_2) := (blk_cell BK124.out 2).trans rfl
          have hfz19_0 := blk_frozen BK124.out 0
          have hfz19_1 := blk_frozen BK124.out 1
          have hfz19_2 := blk_frozen BK124.out 2
          go_wp2_with (first | ((with_reducible refine gate_callee (f := 28) rfl ?_); refine goesL_ (some 7) rfl rfl Try.func28 (by kernel_rfl) rfl #[.agg #[.int .i64 a0_0, .int .i64 a0_1, .int .i64 a0_2]] rfl (by (try simp only [List.map_toArray, List.map_cons, List.map_nil]); first | done | rfl | (simp only [List.length_drop, List.length_take]; rfl)) ?_; (with_reducible refine (railplanref30_sound.calls a0_0 a0_1 a0_2 true _ A7.out).mono ?_); rintro e w20 ⟨rfl, hb⟩; refine ⟨_, rfl, ?_⟩; have n0_ := Aside0.mk (blk_below (g := gb124) (o := .cells #[.int .i64 a0_0, .int .i64 a0_1, .int .i64 a0_2] 26 (0, 0)) (by (with_reducible repeat (first | refine blk_drewN ?_ _ | refine blk_drew ?_ | refine blk_alloc ?_ _)); exact BK124.out) hb); have n1_ := Aside0.mk (blk_below (g := gb125) (o := .cells #[.int .i64 a1_0, .bool a1_1, .int .i64 a1_2, .int .i64 a1_3] 31 (0, 0)) (by (with_reducible repeat (first | refine blk_drewN ?_ _ | refine blk_drew ?_ | refine blk_alloc ?_ _)); exact BK125.out) hb); have n2_ := Aside0.mk (blk_below (g := gb126) (o := .cells #[.int .i64 0, .int .i64 0, .int .i64 0] 26 (0, 0)) (by (with_reducible repeat (first | refine blk_drewN ?_ _ | refine blk_drew ?_ | refine blk_alloc ?_ _)); exact BK126.out) hb); have n3_ := Aside0.mk (below_step (by repeat (first | (with_reducible first | exact HB.out | apply below_alloc | apply pw_below_drewN | apply below_drew1 | refine below_set ?_ GE124.out | refine below_set ?_ GE125.out | refine below_set ?_ GE126.out) | exact HB.out)) hb); clear BK124; clear BK125; clear BK126; clear HB; have BK124 := n0_; have BK125 := n1_; have BK126 := n2_; have HB := n3_; clear n0_ n1_ n2_ n3_; (try clear hb); (try clear hb2); (try clear hk); (try clear hi); have hnb21 := NB125_126.out; have hnc21 := NB126_125.out; have hcz22_0 : w20.cell? ⟨gb125, 0, none⟩ = some (.int .i64 a1_0) := (blk_cell BK125.out 0).trans rfl; have hcz22_1 : w20.cell? ⟨gb125, 1, none⟩ = some (.bool a1_1) := (blk_cell BK125.out 1).trans rfl; have hcz22_2 : w20.cell? ⟨gb125, 2, none⟩ = some (.int .i64 a1_2) := (blk_cell BK125.out 2).trans rfl; have hcz22_3 : w20.cell? ⟨gb125, 3, none⟩ = some (.int .i64 a1_3) := (blk_cell BK125.out 3).trans rfl; have hfz22_0 := blk_frozen BK125.out 0; have hfz22_1 := blk_frozen BK125.out 1; have hfz22_2 := blk_frozen BK125.out 2; have hfz22_3 := blk_frozen BK125.out 3))
          go_meet
          case rel => exact ⟨_, (decide (a1_2 > 400)), (by first | rfl | (simp; done) | (simp [*]; done)), H', ⟨by first | omega | exact Nat.le_refl _⟩, ⟨by (with_reducible repeat (first | refine blk_drewN ?_ _ | refine blk_drew ?_ | refine blk_alloc ?_ _)); exact BK124.out⟩, ⟨by (with_reducible repeat (first | refine blk_drewN ?_ _ | refine blk_drew ?_ | refine blk_alloc ?_ _)); exact BK125.out⟩, ⟨by (with_reducible repeat (first | refine blk_drewN ?_ _ | refine blk_drew ?_ | refine blk_alloc ?_ _)); exact BK126.out⟩, ⟨by repeat (first | (with_reducible first | exact HB.out | apply below_alloc | apply pw_below_drewN | apply below_drew1 | refine below_set ?_ GE124.out | refine below_set ?_ GE125.out | refine below_set ?_ GE126.out) | exact HB.out)⟩⟩
      · rw [if_neg c9] at H
        have c9b0 : (a1_2 == a1_3) = false := beq_eq_false_iff_ne.mpr c9
        have c9b1 : (a1_2 != a1_3) = true := bne_iff_ne.mpr c9
        (first | rw [c9b0] | (simp only [i64_w, i32_w]; rw [c9b0]) | skip)
        have H' := Aside0.mk H
        clear H
        have hnb23 := NB124_125.out
        have hnc23 := NB125_124.out
        have hnb24 := NB124_126.out
        have hnc24 := NB126_124.out
        have hcz25_0 : w6.cell? ⟨gb124, 0, none⟩ = some (.int .i64 a0_0) := (blk_cell BK124.out 0).trans rfl
        have hcz25_1 : w6.cell? ⟨gb124, 1, none⟩ = some (.int .i64 a0_1) := (blk_cell BK124.out 1).trans rfl
        have hcz25_2 : w6.cell? ⟨gb124, 2, none⟩ = some (.int .i64 a0_2) := (blk_cell BK124.out 2).trans rfl
        have hfz25_0 := blk_frozen BK124.out 0
        have hfz25_1 := blk_frozen BK124.out 1
        have hfz25_2 := blk_frozen BK124.out 2
        go_wp2_with (first | ((with_reducible refine gate_callee (f := 28) rfl ?_); refine goesL_ (some 7) rfl rfl Try.func28 (by kernel_rfl) rfl #[.agg #[.int .i64 a0_0, .int .i64 a0_1, .int .i64 a0_2]] rfl (by (try simp only [List.map_toArray, List.map_cons, List.map_nil]); first | done | rfl | (simp only [List.length_drop, List.length_take]; rfl)) ?_; (with_reducible refine (railplanref30_sound.calls a0_0 a0_1 a0_2 true _ A7.out).mono ?_); rintro e w26 ⟨rfl, hb⟩; refine ⟨_, rfl, ?_⟩; have n0_ := Aside0.mk (blk_below (g := gb124) (o := .cells #[.int .i64 a0_0, .int .i64 a0_1, .int .i64 a0_2] 26 (0, 0)) (by (with_reducible repeat (first | refine blk_drewN ?_ _ | refine blk_drew ?_ | refine blk_alloc ?_ _)); exact BK124.out) hb); have n1_ := Aside0.mk (blk_below (g := gb125) (o := .cells #[.int .i64 a1_0, .bool a1_1, .int .i64 a1_2, .int .i64 a1_3] 31 (0, 0)) (by (with_reducible repeat (first | refine blk_drewN ?_ _ | refine blk_drew ?_ | refine blk_alloc ?_ _)); exact BK125.out) hb); have n2_ := Aside0.mk (blk_below (g := gb126) (o := .cells #[.int .i64 0, .int .i64 0, .int .i64 0] 26 (0, 0)) (by (with_reducible repeat (first | refine blk_drewN ?_ _ | refine blk_drew ?_ | refine blk_alloc ?_ _)); exact BK126.out) hb); have n3_ := Aside0.mk (below_step (by repeat (first | (with_reducible first | exact HB.out | apply below_alloc | apply pw_below_drewN | apply below_drew1 | refine below_set ?_ GE124.out | refine below_set ?_ GE125.out | refine below_set ?_ GE126.out) | exact HB.out)) hb); clear BK124; clear BK125; clear BK126; clear HB; have BK124 := n0_; have BK125 := n1_; have BK126 := n2_; have HB := n3_; clear n0_ n1_ n2_ n3_; (try clear hb); (try clear hb2); (try clear hk); (try clear hi); have hnb27 := NB125_126.out; have hnc27 := NB126_125.out; have hcz28_0 : w26.cell? ⟨gb125, 0, none⟩ = some (.int .i64 a1_0) := (blk_cell BK125.out 0).trans rfl; have hcz28_1 : w26.cell? ⟨gb125, 1, none⟩ = some (.bool a1_1) := (blk_cell BK125.out 1).trans rfl; have hcz28_2 : w26.cell? ⟨gb125, 2, none⟩ = some (.int .i64 a1_2) := (blk_cell BK125.out 2).trans rfl; have hcz28_3 : w26.cell? ⟨gb125, 3, none⟩ = some (.int .i64 a1_3) := (blk_cell BK125.out 3).trans rfl; have hfz28_0 := blk_frozen BK125.out 0; have hfz28_1 := blk_frozen BK125.out 1; have hfz28_2 := blk_frozen BK125.out 2; have hfz28_3 := blk_frozen BK125.out 3))
        go_meet
        case rel => exact ⟨_, (true), (by first | rfl | (simp; done) | (simp [*]; done)), H', ⟨by first | omega | exact Nat.le_refl _⟩, ⟨by (with_reducible repeat (first | refine blk_drewN ?_ _ | refine blk_drew ?_ | refine blk_alloc ?_ _)); exact BK124.out⟩, ⟨by (with_reducible repeat (first | refine blk_drewN ?_ _ | refine blk_drew ?_ | refine blk_alloc ?_ _)); exact BK125.out⟩, ⟨by (with_reducible repeat (first | refine blk_drewN ?_ _ | refine blk_drew ?_ | refine blk_alloc ?_ _)); exact BK126.out⟩, ⟨by repeat (first | (with_reducible first | exact HB.out | apply below_alloc | apply pw_below_drewN | apply below_drew1 | refine below_set ?_ GE124.out | refine below_set ?_ GE125.out | refine below_set ?_ GE126.out) | exact HB.out)⟩⟩
    · replace c8 := Bool.eq_false_iff.mpr c8
      subst c8
      have H1 : (railplanref30_Feed.j0 k true a0_0 a0_1 a0_2 a1_0 a1_1 a1_2 a1_3) = some (r1, r2, r3) := by rw [if_neg (show ¬ (false = true) by decide)] at H; exact H
      clear H
      have H := H1
      clear H1
      have H' := Aside0.mk H
      clear H
      have hnb29 := NB124_125.out
      have hnc29 := NB125_124.out
      have hnb30 := NB124_126.out
      have hnc30 := NB126_124.out
      have hcz31_0 : w6.cell? ⟨gb124, 0, none⟩ = some (.int .i64 a0_0) := (blk_cell BK124.out 0).trans rfl
      have hcz31_1 : w6.cell? ⟨gb124, 1, none⟩ = some (.int .i64 a0_1) := (blk_cell BK124.out 1).trans rfl
      have hcz31_2 : w6.cell? ⟨gb124, 2, none⟩ = some (.int .i64 a0_2) := (blk_cell BK124.out 2).trans rfl
      have hfz31_0 := blk_frozen BK124.out 0
      have hfz31_1 := blk_frozen BK124.out 1
      have hfz31_2 := blk_frozen BK124.out 2
      go_wp2_with (first | ((with_reducible refine gate_callee (f := 28) rfl ?_); refine goesL_ (some 7) rfl rfl Try.func28 (by kernel_rfl) rfl #[.agg #[.int .i64 a0_0, .int .i64 a0_1, .int .i64 a0_2]] rfl (by (try simp only [List.map_toArray, List.map_cons, List.map_nil]); first | done | rfl | (simp only [List.length_drop, List.length_take]; rfl)) ?_; (with_reducible refine (railplanref30_sound.calls a0_0 a0_1 a0_2 false _ A7.out).mono ?_); rintro e w32 ⟨rfl, hb⟩; refine ⟨_, rfl, ?_⟩; have n0_ := Aside0.mk (blk_below (g := gb124) (o := .cells #[.int .i64 a0_0, .int .i64 a0_1, .int .i64 a0_2] 26 (0, 0)) (by (with_reducible repeat (first | refine blk_drewN ?_ _ | refine blk_drew ?_ | refine blk_alloc ?_ _)); exact BK124.out) hb); have n1_ := Aside0.mk (blk_below (g := gb125) (o := .cells #[.int .i64 a1_0, .bool a1_1, .int .i64 a1_2, .int .i64 a1_3] 31 (0, 0)) (by (with_reducible repeat (first | refine blk_drewN ?_ _ | refine blk_drew ?_ | refine blk_alloc ?_ _)); exact BK125.out) hb); have n2_ := Aside0.mk (blk_below (g := gb126) (o := .cells #[.int .i64 0, .int .i64 0, .int .i64 0] 26 (0, 0)) (by (with_reducible repeat (first | refine blk_drewN ?_ _ | refine blk_drew ?_ | refine blk_alloc ?_ _)); exact BK126.out) hb); have n3_ := Aside0.mk (below_step (by repeat (first | (with_reducible first | exact HB.out | apply below_alloc | apply pw_below_drewN | apply below_drew1 | refine below_set ?_ GE124.out | refine below_set ?_ GE125.out | refine below_set ?_ GE126.out) | exact HB.out)) hb); clear BK124; clear BK125; clear BK126; clear HB; have BK124 := n0_; have BK125 := n1_; have BK126 := n2_; have HB := n3_; clear n0_ n1_ n2_ n3_; (try clear hb); (try clear hb2); (try clear hk); (try clear hi)))
      go_meet
      case rel => exact ⟨_, (true), (by first | rfl | (simp; done) | (simp [*]; done)), H', ⟨by first | omega | exact Nat.le_refl _⟩, ⟨by (with_reducible repeat (first | refine blk_drewN ?_ _ | refine blk_drew ?_ | refine blk_alloc ?_ _)); exact BK124.out⟩, ⟨by (with_reducible repeat (first | refine blk_drewN ?_ _ | refine blk_drew ?_ | refine blk_alloc ?_ _)); exact BK125.out⟩, ⟨by (with_reducible repeat (first | refine blk_drewN ?_ _ | refine blk_drew ?_ | refine blk_alloc ?_ _)); exact BK126.out⟩, ⟨by repeat (first | (with_reducible first | exact HB.out | apply below_alloc | apply pw_below_drewN | apply below_drew1 | refine below_set ?_ GE124.out | refine below_set ?_ GE125.out | refine below_set ?_ GE126.out) | exact HB.out)⟩⟩
  case rest =>
    clear HC3
    try clear c1
    try clear c2
    try clear p2
    try clear c3
    try clear c8
    try clear c9
    try clear c9b0
    try clear c9b1
    try clear c10
    try clear c10b0
    try clear c11
    try clear c12
    try clear c15
    try clear c17
    try clear c18
    try clear c19
    try clear c21
    try clear c23
    try clear c24
    try clear c27
    try clear c28
    try clear c29
    try clear c30
    try clear hcz13_0
    try clear hcz13_1
    try clear hcz13_2
    try clear hcz16_0
    try clear hcz16_1
    try clear hcz16_2
    try clear hcz16_3
    try clear hcz19_0
    try clear hcz19_1
    try clear hcz19_2
    try clear hcz22_0
    try clear hcz22_1
    try clear hcz22_2
    try clear hcz22_3
    try clear hcz25_0
    try clear hcz25_1
    try clear hcz25_2
    try clear hcz28_0
    try clear hcz28_1
    try clear hcz28_2
    try clear hcz28_3
    try clear hcz31_0
    try clear hcz31_1
    try clear hcz31_2
    try clear hfz13_0
    try clear hfz13_1
    try clear hfz13_2
    try clear hfz16_0
    try clear hfz16_1
    try clear hfz16_2
    try clear hfz16_3
    try clear hfz19_0
    try clear hfz19_1
    try clear hfz19_2
    try clear hfz22_0
    try clear hfz22_1
    try clear hfz22_2
    try clear hfz22_3
    try clear hfz25_0
    try clear hfz25_1
    try clear hfz25_2
    try clear hfz28_0
    try clear hfz28_1
    try clear hfz28_2
    try clear hfz28_3
    try clear hfz31_0
    try clear hfz31_1
    try clear hfz31_2
    obtain ⟨kq, x25_2, rfl, HA, HJ2, BK124, BK125, BK126, HB⟩ := hcut
    cases kq with
    | zero => exact absurd HA.out (by simp [railplanref30_Feed.j0])
    | succ kj2 =>
      have H := HA.out
      clear HA
      simp only [railplanref30_Feed.j0] at H
      by_cases c33 : x25_2 = true
      · subst c33
        have H1 : (some (1, 0, 0)) = some (r1, r2, r3) := by rw [if_pos rfl] at H; exact H
        clear H
        have H := H1
        clear H1
        simp only [Option.some.injEq, Prod.mk.injEq] at H
        obtain ⟨rfl, rfl, rfl⟩ := H
        have hnb34 := NB126_124.out
        have hnc34 := NB124_126.out
        have hnb35 := NB126_125.out
        have hnc35 := NB125_126.out
        have hcz36_0 : wc.cell? ⟨gb126, 0, none⟩ = some (.int .i64 0) := (blk_cell BK126.out 0).trans rfl
        have hcz36_1 : wc.cell? ⟨gb126, 1, none⟩ = some (.int .i64 0) := (blk_cell BK126.out 1).trans rfl
        have hcz36_2 : wc.cell? ⟨gb126, 2, none⟩ = some (.int .i64 0) := (blk_cell BK126.out 2).trans rfl
        have hfz36_0 := blk_frozen BK126.out 0
        have hfz36_1 := blk_frozen BK126.out 1
        have hfz36_2 := blk_frozen BK126.out 2
        go_wp2
        refine bodyPost_ret (results_cell_row rfl _ _ gb126 26 #[.int .i64 1, .int .i64 0, .int .i64 0] (0, 0) _ rfl (by (with_reducible repeat (first | refine blk_drewN ?_ _ | refine blk_drew ?_ | refine blk_alloc ?_ _)); refine blk_put (cs := #[.int .i64 1, .int .i64 0, .int .i64 0]) ?_ 2 _ rfl; (with_reducible repeat (first | refine blk_drewN ?_ _ | refine blk_drew ?_ | refine blk_alloc ?_ _)); refine blk_put (cs := #[.int .i64 1, .int .i64 0, .int .i64 0]) ?_ 1 _ rfl; (with_reducible repeat (first | refine blk_drewN ?_ _ | refine blk_drew ?_ | refine blk_alloc ?_ _)); refine blk_put (cs := #[.int .i64 0, .int .i64 0, .int .i64 0]) ?_ 0 _ rfl; (with_reducible repeat (first | refine blk_drewN ?_ _ | refine blk_drew ?_ | refine blk_alloc ?_ _)); exact BK126.out) Try.underlying26 rfl (by kernel_rfl)) rfl ?_
        exact ⟨by first | rfl | (simp [errW_none, errW_some] <;> rfl) | (simp [*, errW_none, errW_some] <;> rfl), by repeat (first | (with_reducible first | exact HB.out | apply below_alloc | apply pw_below_drewN | apply below_drew1 | refine below_set ?_ GE124.out | refine below_set ?_ GE125.out | refine below_set ?_ GE126.out) | exact HB.out)⟩
      · replace c33 := Bool.eq_false_iff.mpr c33
        subst c33
        have H1 : (if a1_1 = true then (railplanref30_Feed.j1 kj2 (wrap64 (a0_1 + a1_2)) a0_0 a0_1 a0_2 a1_0 a1_1 a1_2 a1_3) else (railplanref30_Feed.j1 kj2 (wrap64 (a0_1 - a1_2)) a0_0 a0_1 a0_2 a1_0 a1_1 a1_2 a1_3)) = some (r1, r2, r3) := by rw [if_neg (show ¬ (false = true) by decide)] at H; exact H
        clear H
        have H := H1
        clear H1
        have HC37 := Aside0.mk H
        clear H
        have hnb38 := NB124_125.out
        have hnc38 := NB125_124.out
        have hnb39 := NB124_126.out
        have hnc39 := NB126_124.out
        have hcz40_0 : wc.cell? ⟨gb124, 0, none⟩ = some (.int .i64 a0_0) := (blk_cell BK124.out 0).trans rfl
        have hcz40_1 : wc.cell? ⟨gb124, 1, none⟩ = some (.int .i64 a0_1) := (blk_cell BK124.out 1).trans rfl
        have hcz40_2 : wc.cell? ⟨gb124, 2, none⟩ = some (.int .i64 a0_2) := (blk_cell BK124.out 2).trans rfl
        have hfz40_0 := blk_frozen BK124.out 0
        have hfz40_1 := blk_frozen BK124.out 1
        have hfz40_2 := blk_frozen BK124.out 2
        have hnb41 := NB125_126.out
        have hnc41 := NB126_125.out
        have hcz42_0 : wc.cell? ⟨gb125, 0, none⟩ = some (.int .i64 a1_0) := (blk_cell BK125.out 0).trans rfl
        have hcz42_1 : wc.cell? ⟨gb125, 1, none⟩ = some (.bool a1_1) := (blk_cell BK125.out 1).trans rfl
        have hcz42_2 : wc.cell? ⟨gb125, 2, none⟩ = some (.int .i64 a1_2) := (blk_cell BK125.out 2).trans rfl
        have hcz42_3 : wc.cell? ⟨gb125, 3, none⟩ = some (.int .i64 a1_3) := (blk_cell BK125.out 3).trans rfl
        have hfz42_0 := blk_frozen BK125.out 0
        have hfz42_1 := blk_frozen BK125.out 1
        have hfz42_2 := blk_frozen BK125.out 2
        have hfz42_3 := blk_frozen BK125.out 3
        go_upto_if 33 with (fail)
        go_cut [5] (fun v5 wc => ∃ (kq : Nat) (x5_36 : Int), v5 = .int .i64 x5_36 ∧ Aside0 (railplanref30_Feed.j1 kq x5_36 a0_0 a0_1 a0_2 a1_0 a1_1 a1_2 a1_3 = some (r1, r2, r3)) ∧ Aside0 (kq ≤ kj2) ∧ Aside0 (wc.heap[gb124]? = some (.cells #[.int .i64 a0_0, .int .i64 a0_1, .int .i64 a0_2] 26 (0, 0))) ∧ Aside0 (wc.heap[gb125]? = some (.cells #[.int .i64 a1_0, .bool a1_1, .int .i64 a1_2, .int .i64 a1_3] 31 (0, 0))) ∧ Aside0 (wc.heap[gb126]? = some (.cells #[.int .i64 0, .int .i64 0, .int .i64 0] 26 (0, 0))) ∧ Aside0 (Below w.heap.size w wc))
        case first =>
          have H := HC37.out
          clear HC37
          by_cases c43 : a1_1 = true
          · subst c43
            have H1 : (railplanref30_Feed.j1 kj2 (wrap64 (a0_1 + a1_2)) a0_0 a0_1 a0_2 a1_0 true a1_2 a1_3) = some (r1, r2, r3) := by rw [if_pos rfl] at H; exact H
            clear H
            have H := H1
            clear H1
            have H' := Aside0.mk H
            clear H
            have hnb44 := NB124_125.out
            have hnc44 := NB125_124.out
            have hnb45 := NB124_126.out
            have hnc45 := NB126_124.out
            have hcz46_0 : wc.cell? ⟨gb124, 0, none⟩ = some (.int .i64 a0_0) := (blk_cell BK124.out 0).trans rfl
            have hcz46_1 : wc.cell? ⟨gb124, 1, none⟩ = some (.int .i64 a0_1) := (blk_cell BK124.out 1).trans rfl
            have hcz46_2 : wc.cell? ⟨gb124, 2, none⟩ = some (.int .i64 a0_2) := (blk_cell BK124.out 2).trans rfl
            have hfz46_0 := blk_frozen BK124.out 0
            have hfz46_1 := blk_frozen BK124.out 1
            have hfz46_2 := blk_frozen BK124.out 2
            have hnb47 := NB125_126.out
            have hnc47 := NB126_125.out
            have hcz48_0 : wc.cell? ⟨gb125, 0, none⟩ = some (.int .i64 a1_0) := (blk_cell BK125.out 0).trans rfl
            have hcz48_1 : wc.cell? ⟨gb125, 1, none⟩ = some (.bool true) := (blk_cell BK125.out 1).trans rfl
            have hcz48_2 : wc.cell? ⟨gb125, 2, none⟩ = some (.int .i64 a1_2) := (blk_cell BK125.out 2).trans rfl
            have hcz48_3 : wc.cell? ⟨gb125, 3, none⟩ = some (.int .i64 a1_3) := (blk_cell BK125.out 3).trans rfl
            have hfz48_0 := blk_frozen BK125.out 0
            have hfz48_1 := blk_frozen BK125.out 1
            have hfz48_2 := blk_frozen BK125.out 2
            have hfz48_3 := blk_frozen BK125.out 3
            go_wp2
            go_meet
            case rel => exact ⟨_, (wrap64 (a0_1 + a1_2)), (by first | rfl | (simp; done) | (simp [*]; done)), H', ⟨by have := HJ2.out; first | omega | exact Nat.le_refl _⟩, ⟨by (with_reducible repeat (first | refine blk_drewN ?_ _ | refine blk_drew ?_ | refine blk_alloc ?_ _)); exact BK124.out⟩, ⟨by (with_reducible repeat (first | refine blk_drewN ?_ _ | refine blk_drew ?_ | refine blk_alloc ?_ _)); exact BK125.out⟩, ⟨by (with_reducible repeat (first | refine blk_drewN ?_ _ | refine blk_drew ?_ | refine blk_alloc ?_ _)); exact BK126.out⟩, ⟨by repeat (first | (with_reducible first | exact HB.out | apply below_alloc | apply pw_below_drewN | apply below_drew1 | refine below_set ?_ GE124.out | refine below_set ?_ GE125.out | refine below_set ?_ GE126.out) | exact HB.out)⟩⟩
          · replace c43 := Bool.eq_false_iff.mpr c43
            subst c43
            have H1 : (railplanref30_Feed.j1 kj2 (wrap64 (a0_1 - a1_2)) a0_0 a0_1 a0_2 a1_0 false a1_2 a1_3) = some (r1, r2, r3) := by rw [if_neg (show ¬ (false = true) by decide)] at H; exact H
            clear H
            have H := H1
            clear H1
            have H' := Aside0.mk H
            clear H
            go_wp2
            go_meet
            case rel => exact ⟨_, (wrap64 (a0_1 - a1_2)), (by first | rfl | (simp; done) | (simp [*]; done)), H', ⟨by have := HJ2.out; first | omega | exact Nat.le_refl _⟩, ⟨by (with_reducible repeat (first | refine blk_drewN ?_ _ | refine blk_drew ?_ | refine blk_alloc ?_ _)); exact BK124.out⟩, ⟨by (with_reducible repeat (first | refine blk_drewN ?_ _ | refine blk_drew ?_ | refine blk_alloc ?_ _)); exact BK125.out⟩, ⟨by (with_reducible repeat (first | refine blk_drewN ?_ _ | refine blk_drew ?_ | refine blk_alloc ?_ _)); exact BK126.out⟩, ⟨by repeat (first | (with_reducible first | exact HB.out | apply below_alloc | apply pw_below_drewN | apply below_drew1 | refine below_set ?_ GE124.out | refine below_set ?_ GE125.out | refine below_set ?_ GE126.out) | exact HB.out)⟩⟩
        case rest =>
          clear HC37
          try clear c1
          try clear c2
          try clear p2
          try clear c3
          try clear c4
          try clear p6
          try clear c8
          try clear c9
          try clear c9b0
          try clear c9b1
          try clear c10
          try clear c10b0
          try clear c11
          try clear c12
          try clear c15
          try clear c17
          try clear c18
          try clear c19
          try clear c21
          try clear c23
          try clear c24
          try clear c27
          try clear c28
          try clear c29
          try clear c30
          try clear c33
          try clear c34
          try clear c35
          try clear c38
          try clear c39
          try clear c41
          try clear c43
          try clear c44
          try clear c45
          try clear c47
          try clear hcz13_0
          try clear hcz13_1
          try clear hcz13_2
          try clear hcz16_0
          try clear hcz16_1
          try clear hcz16_2
          try clear hcz16_3
          try clear hcz19_0
          try clear hcz19_1
          try clear hcz19_2
          try clear hcz22_0
          try clear hcz22_1
          try clear hcz22_2
          try clear hcz22_3
          try clear hcz25_0
          try clear hcz25_1
          try clear hcz25_2
          try clear hcz28_0
          try clear hcz28_1
          try clear hcz28_2
          try clear hcz28_3
          try clear hcz31_0
          try clear hcz31_1
          try clear hcz31_2
          try clear hcz36_0
          try clear hcz36_1
          try clear hcz36_2
          try clear hcz40_0
          try clear hcz40_1
          try clear hcz40_2
          try clear hcz42_0
          try clear hcz42_1
          try clear hcz42_2
          try clear hcz42_3
          try clear hcz46_0
          try clear hcz46_1
          try clear hcz46_2
          try clear hcz48_0
          try clear hcz48_1
          try clear hcz48_2
          try clear hcz48_3
          try clear hfz13_0
          try clear hfz13_1
          try clear hfz13_2
          try clear hfz16_0
          try clear hfz16_1
          try clear hfz16_2
          try clear hfz16_3
          try clear hfz19_0
          try clear hfz19_1
          try clear hfz19_2
          try clear hfz22_0
          try clear hfz22_1
          try clear hfz22_2
          try clear hfz22_3
          try clear hfz25_0
          try clear hfz25_1
          try clear hfz25_2
          try clear hfz28_0
          try clear hfz28_1
          try clear hfz28_2
          try clear hfz28_3
          try clear hfz31_0
          try clear hfz31_1
          try clear hfz31_2
          try clear hfz36_0
          try clear hfz36_1
          try clear hfz36_2
          try clear hfz40_0
          try clear hfz40_1
          try clear hfz40_2
          try clear hfz42_0
          try clear hfz42_1
          try clear hfz42_2
          try clear hfz42_3
          try clear hfz46_0
          try clear hfz46_1
          try clear hfz46_2
          try clear hfz48_0
          try clear hfz48_1
          try clear hfz48_2
          try clear hfz48_3
          try clear p2
          obtain ⟨kq, x5_36, rfl, HA, HJ36, BK124, BK125, BK126, HB⟩ := hcut
          cases kq with
          | zero => exact absurd HA.out (by simp [railplanref30_Feed.j1])
          | succ kj36 =>
            have H := HA.out
            clear HA
            simp only [railplanref30_Feed.j1] at H
            have HC49 := Aside0.mk H
            clear H
            go_upto_region 6 with (fail)
            go_cut [44] (fun v44 wc => ∃ (kq : Nat) (x44_48 : Bool), v44 = .bool x44_48 ∧ Aside0 (railplanref30_Feed.j2 kq x5_36 x44_48 a0_0 a0_1 a0_2 a1_0 a1_1 a1_2 a1_3 = some (r1, r2, r3)) ∧ Aside0 (kq ≤ kj36) ∧ Aside0 (wc.heap[gb124]? = some (.cells #[.int .i64 a0_0, .int .i64 a0_1, .int .i64 a0_2] 26 (0, 0))) ∧ Aside0 (wc.heap[gb125]? = some (.cells #[.int .i64 a1_0, .bool a1_1, .int .i64 a1_2, .int .i64 a1_3] 31 (0, 0))) ∧ Aside0 (wc.heap[gb126]? = some (.cells #[.int .i64 0, .int .i64 0, .int .i64 0] 26 (0, 0))) ∧ Aside0 (Below w.heap.size w wc))
            case first =>
              have H := HC49.out
              clear HC49
              by_cases c50 : x5_36 < 0
              · rw [if_pos c50] at H
                have c50b0 : decide (x5_36 < 0) = true := decide_eq_true c50
                clear c50
                (first | rw [c50b0] | (simp only [i64_w, i32_w]; rw [c50b0]) | skip)
                have H' := Aside0.mk H
                clear H
                go_wp2
                go_meet
                case rel => exact ⟨_, (true), (by first | rfl | (simp; done) | (simp [*]; done)), H', ⟨by have := HJ2.out; have := HJ36.out; first | omega | exact Nat.le_refl _⟩, ⟨by (with_reducible repeat (first | refine blk_drewN ?_ _ | refine blk_drew ?_ | refine blk_alloc ?_ _)); exact BK124.out⟩, ⟨by (with_reducible repeat (first | refine blk_drewN ?_ _ | refine blk_drew ?_ | refine blk_alloc ?_ _)); exact BK125.out⟩, ⟨by (with_reducible repeat (first | refine blk_drewN ?_ _ | refine blk_drew ?_ | refine blk_alloc ?_ _)); exact BK126.out⟩, ⟨by repeat (first | (with_reducible first | exact HB.out | apply below_alloc | apply pw_below_drewN | apply below_drew1 | refine below_set ?_ GE124.out | refine below_set ?_ GE125.out | refine below_set ?_ GE126.out) | exact HB.out)⟩⟩
              · rw [if_neg c50] at H
                have c50b0 : decide (x5_36 < 0) = false := decide_eq_false c50
                clear c50
                (first | rw [c50b0] | (simp only [i64_w, i32_w]; rw [c50b0]) | skip)
                have H' := Aside0.mk H
                clear H
                go_wp2
                go_meet
                case rel => exact ⟨_, (decide (x5_36 > 1600)), (by first | rfl | (simp; done) | (simp [*]; done)), H', ⟨by have := HJ2.out; have := HJ36.out; first | omega | exact Nat.le_refl _⟩, ⟨by (with_reducible repeat (first | refine blk_drewN ?_ _ | refine blk_drew ?_ | refine blk_alloc ?_ _)); exact BK124.out⟩, ⟨by (with_reducible repeat (first | refine blk_drewN ?_ _ | refine blk_drew ?_ | refine blk_alloc ?_ _)); exact BK125.out⟩, ⟨by (with_reducible repeat (first | refine blk_drewN ?_ _ | refine blk_drew ?_ | refine blk_alloc ?_ _)); exact BK126.out⟩, ⟨by repeat (first | (with_reducible first | exact HB.out | apply below_alloc | apply pw_below_drewN | apply below_drew1 | refine below_set ?_ GE124.out | refine below_set ?_ GE125.out | refine below_set ?_ GE126.out) | exact HB.out)⟩⟩
            case rest =>
              clear HC49
              try clear c1
              try clear c2
              try clear p2
              try clear c3
              try clear c4
              try clear c5
              try clear p6
              try clear c8
              try clear c9
              try clear c9b0
              try clear c9b1
              try clear c10
              try clear c10b0
              try clear c11
              try clear c12
              try clear c15
              try clear c17
              try clear c18
              try clear c19
              try clear c21
              try clear c23
              try clear c24
              try clear c27
              try clear c28
              try clear c29
              try clear c30
              try clear c33
              try clear c34
              try clear c35
              try clear c38
              try clear c39
              try clear c41
              try clear c43
              try clear c44
              try clear c45
              try clear c47
              try clear c50
              try clear c50b0
              try clear hcz13_0
              try clear hcz13_1
              try clear hcz13_2
              try clear hcz16_0
              try clear hcz16_1
              try clear hcz16_2
              try clear hcz16_3
              try clear hcz19_0
              try clear hcz19_1
              try clear hcz19_2
              try clear hcz22_0
              try clear hcz22_1
              try clear hcz22_2
              try clear hcz22_3
              try clear hcz25_0
              try clear hcz25_1
              try clear hcz25_2
              try clear hcz28_0
              try clear hcz28_1
              try clear hcz28_2
              try clear hcz28_3
              try clear hcz31_0
              try clear hcz31_1
              try clear hcz31_2
              try clear hcz36_0
              try clear hcz36_1
              try clear hcz36_2
              try clear hcz40_0
              try clear hcz40_1
              try clear hcz40_2
              try clear hcz42_0
              try clear hcz42_1
              try clear hcz42_2
              try clear hcz42_3
              try clear hcz46_0
              try clear hcz46_1
              try clear hcz46_2
              try clear hcz48_0
              try clear hcz48_1
              try clear hcz48_2
              try clear hcz48_3
              try clear hfz13_0
              try clear hfz13_1
              try clear hfz13_2
              try clear hfz16_0
              try clear hfz16_1
              try clear hfz16_2
              try clear hfz16_3
              try clear hfz19_0
              try clear hfz19_1
              try clear hfz19_2
              try clear hfz22_0
              try clear hfz22_1
              try clear hfz22_2
              try clear hfz22_3
              try clear hfz25_0
              try clear hfz25_1
              try clear hfz25_2
              try clear hfz28_0
              try clear hfz28_1
              try clear hfz28_2
              try clear hfz28_3
              try clear hfz31_0
              try clear hfz31_1
              try clear hfz31_2
              try clear hfz36_0
              try clear hfz36_1
              try clear hfz36_2
              try clear hfz40_0
              try clear hfz40_1
              try clear hfz40_2
              try clear hfz42_0
              try clear hfz42_1
              try clear hfz42_2
              try clear hfz42_3
              try clear hfz46_0
              try clear hfz46_1
              try clear hfz46_2
              try clear hfz48_0
              try clear hfz48_1
              try clear hfz48_2
              try clear hfz48_3
              try clear p2
              try clear p6
              obtain ⟨kq, x44_48, rfl, HA, HJ48, BK124, BK125, BK126, HB⟩ := hcut
              cases kq with
              | zero => exact absurd HA.out (by simp [railplanref30_Feed.j2])
              | succ kj48 =>
                have H := HA.out
                clear HA
                simp only [railplanref30_Feed.j2] at H
                by_cases c51 : x44_48 = true
                · subst c51
                  have H1 : (some (1, 0, 0)) = some (r1, r2, r3) := by rw [if_pos rfl] at H; exact H
                  clear H
                  have H := H1
                  clear H1
                  simp only [Option.some.injEq, Prod.mk.injEq] at H
                  obtain ⟨rfl, rfl, rfl⟩ := H
                  have hnb52 := NB126_124.out
                  have hnc52 := NB124_126.out
                  have hnb53 := NB126_125.out
                  have hnc53 := NB125_126.out
                  have hcz54_0 : wc.cell? ⟨gb126, 0, none⟩ = some (.int .i64 0) := (blk_cell BK126.out 0).trans rfl
                  have hcz54_1 : wc.cell? ⟨gb126, 1, none⟩ = some (.int .i64 0) := (blk_cell BK126.out 1).trans rfl
                  have hcz54_2 : wc.cell? ⟨gb126, 2, none⟩ = some (.int .i64 0) := (blk_cell BK126.out 2).trans rfl
                  have hfz54_0 := blk_frozen BK126.out 0
                  have hfz54_1 := blk_frozen BK126.out 1
                  have hfz54_2 := blk_frozen BK126.out 2
                  go_wp2
                  refine bodyPost_ret (results_cell_row rfl _ _ gb126 26 #[.int .i64 1, .int .i64 0, .int .i64 0] (0, 0) _ rfl (by (with_reducible repeat (first | refine blk_drewN ?_ _ | refine blk_drew ?_ | refine blk_alloc ?_ _)); refine blk_put (cs := #[.int .i64 1, .int .i64 0, .int .i64 0]) ?_ 2 _ rfl; (with_reducible repeat (first | refine blk_drewN ?_ _ | refine blk_drew ?_ | refine blk_alloc ?_ _)); refine blk_put (cs := #[.int .i64 1, .int .i64 0, .int .i64 0]) ?_ 1 _ rfl; (with_reducible repeat (first | refine blk_drewN ?_ _ | refine blk_drew ?_ | refine blk_alloc ?_ _)); refine blk_put (cs := #[.int .i64 0, .int .i64 0, .int .i64 0]) ?_ 0 _ rfl; (with_reducible repeat (first | refine blk_drewN ?_ _ | refine blk_drew ?_ | refine blk_alloc ?_ _)); exact BK126.out) Try.underlying26 rfl (by kernel_rfl)) rfl ?_
                  exact ⟨by first | rfl | (simp [errW_none, errW_some] <;> rfl) | (simp [*, errW_none, errW_some] <;> rfl), by repeat (first | (with_reducible first | exact HB.out | apply below_alloc | apply pw_below_drewN | apply below_drew1 | refine below_set ?_ GE124.out | refine below_set ?_ GE125.out | refine below_set ?_ GE126.out) | exact HB.out)⟩
                · replace c51 := Bool.eq_false_iff.mpr c51
                  subst c51
                  have H1 : (if a0_0 = 2 then (if a1_1 = true then (some (a0_0, x5_36, x5_36)) else (if x5_36 = 0 then (some (0, 0, 0)) else (some (a0_0, x5_36, x5_36)))) else (some (a0_0, x5_36, x5_36))) = some (r1, r2, r3) := by rw [if_neg (show ¬ (false = true) by decide)] at H; exact H
                  clear H
                  have H := H1
                  clear H1
                  by_cases c55 : a0_0 = 2
                  · rw [if_pos c55] at H
                    have c55b0 : (a0_0 == 2) = true := beq_iff_eq.mpr c55
                    have c55b1 : (a0_0 != 2) = false := bne_eq_false_iff_eq.mpr c55
                    clear c55
                    by_cases c56 : a1_1 = true
                    · subst c56
                      have H1 : (some (a0_0, x5_36, x5_36)) = some (r1, r2, r3) := by rw [if_pos rfl] at H; exact H
                      clear H
                      have H := H1
                      clear H1
                      simp only [Option.some.injEq, Prod.mk.injEq] at H
                      obtain ⟨rfl, rfl, rfl⟩ := H
                      have hnb57 := NB124_125.out
                      have hnc57 := NB125_124.out
                      have hnb58 := NB124_126.out
                      have hnc58 := NB126_124.out
                      have hcz59_0 : wc.cell? ⟨gb124, 0, none⟩ = some (.int .i64 a0_0) := (blk_cell BK124.out 0).trans rfl
                      have hcz59_1 : wc.cell? ⟨gb124, 1, none⟩ = some (.int .i64 a0_1) := (blk_cell BK124.out 1).trans rfl
                      have hcz59_2 : wc.cell? ⟨gb124, 2, none⟩ = some (.int .i64 a0_2) := (blk_cell BK124.out 2).trans rfl
                      have hfz59_0 := blk_frozen BK124.out 0
                      have hfz59_1 := blk_frozen BK124.out 1
                      have hfz59_2 := blk_frozen BK124.out 2
                      have hnb60 := NB125_126.out
                      have hnc60 := NB126_125.out
                      have hcz61_0 : wc.cell? ⟨gb125, 0, none⟩ = some (.int .i64 a1_0) := (blk_cell BK125.out 0).trans rfl
                      have hcz61_1 : wc.cell? ⟨gb125, 1, none⟩ = some (.bool true) := (blk_cell BK125.out 1).trans rfl
                      have hcz61_2 : wc.cell? ⟨gb125, 2, none⟩ = some (.int .i64 a1_2) := (blk_cell BK125.out 2).trans rfl
                      have hcz61_3 : wc.cell? ⟨gb125, 3, none⟩ = some (.int .i64 a1_3) := (blk_cell BK125.out 3).trans rfl
                      have hfz61_0 := blk_frozen BK125.out 0
                      have hfz61_1 := blk_frozen BK125.out 1
                      have hfz61_2 := blk_frozen BK125.out 2
                      have hfz61_3 := blk_frozen BK125.out 3
                      have hcz62_0 : wc.cell? ⟨gb126, 0, none⟩ = some (.int .i64 0) := (blk_cell BK126.out 0).trans rfl
                      have hcz62_1 : wc.cell? ⟨gb126, 1, none⟩ = some (.int .i64 0) := (blk_cell BK126.out 1).trans rfl
                      have hcz62_2 : wc.cell? ⟨gb126, 2, none⟩ = some (.int .i64 0) := (blk_cell BK126.out 2).trans rfl
                      have hfz62_0 := blk_frozen BK126.out 0
                      have hfz62_1 := blk_frozen BK126.out 1
                      have hfz62_2 := blk_frozen BK126.out 2
                      go_wp2
                      refine bodyPost_ret (results_cell_row rfl _ _ gb126 26 #[.int .i64 a0_0, .int .i64 x5_36, .int .i64 x5_36] (0, 0) _ rfl (by (with_reducible repeat (first | refine blk_drewN ?_ _ | refine blk_drew ?_ | refine blk_alloc ?_ _)); refine blk_put (cs := #[.int .i64 a0_0, .int .i64 x5_36, .int .i64 0]) ?_ 2 _ rfl; (with_reducible repeat (first | refine blk_drewN ?_ _ | refine blk_drew ?_ | refine blk_alloc ?_ _)); refine blk_put (cs := #[.int .i64 a0_0, .int .i64 0, .int .i64 0]) ?_ 1 _ rfl; (with_reducible repeat (first | refine blk_drewN ?_ _ | refine blk_drew ?_ | refine blk_alloc ?_ _)); refine blk_put (cs := #[.int .i64 0, .int .i64 0, .int .i64 0]) ?_ 0 _ rfl; (with_reducible repeat (first | refine blk_drewN ?_ _ | refine blk_drew ?_ | refine blk_alloc ?_ _)); exact BK126.out) Try.underlying26 rfl (by kernel_rfl)) rfl ?_
                      exact ⟨by first | rfl | (simp [errW_none, errW_some] <;> rfl) | (simp [*, errW_none, errW_some] <;> rfl), by repeat (first | (with_reducible first | exact HB.out | apply below_alloc | apply pw_below_drewN | apply below_drew1 | refine below_set ?_ GE124.out | refine below_set ?_ GE125.out | refine below_set ?_ GE126.out) | exact HB.out)⟩
                    · replace c56 := Bool.eq_false_iff.mpr c56
                      subst c56
                      have H1 : (if x5_36 = 0 then (some (0, 0, 0)) else (some (a0_0, x5_36, x5_36))) = some (r1, r2, r3) := by rw [if_neg (show ¬ (false = true) by decide)] at H; exact H
                      clear H
                      have H := H1
                      clear H1
                      by_cases c63 : x5_36 = 0
                      · rw [if_pos c63] at H
                        have c63b0 : (x5_36 == 0) = true := beq_iff_eq.mpr c63
                        have c63b1 : (x5_36 != 0) = false := bne_eq_false_iff_eq.mpr c63
                        clear c63
                        simp only [Option.some.injEq, Prod.mk.injEq] at H
                        obtain ⟨rfl, rfl, rfl⟩ := H
                        have hnb64 := NB124_125.out
                        have hnc64 := NB125_124.out
                        have hnb65 := NB124_126.out
                        have hnc65 := NB126_124.out
                        have hcz66_0 : wc.cell? ⟨gb124, 0, none⟩ = some (.int .i64 a0_0) := (blk_cell BK124.out 0).trans rfl
                        have hcz66_1 : wc.cell? ⟨gb124, 1, none⟩ = some (.int .i64 a0_1) := (blk_cell BK124.out 1).trans rfl
                        have hcz66_2 : wc.cell? ⟨gb124, 2, none⟩ = some (.int .i64 a0_2) := (blk_cell BK124.out 2).trans rfl
                        have hfz66_0 := blk_frozen BK124.out 0
                        have hfz66_1 := blk_frozen BK124.out 1
                        have hfz66_2 := blk_frozen BK124.out 2
                        have hnb67 := NB125_126.out
                        have hnc67 := NB126_125.out
                        have hcz68_0 : wc.cell? ⟨gb125, 0, none⟩ = some (.int .i64 a1_0) := (blk_cell BK125.out 0).trans rfl
                        have hcz68_1 : wc.cell? ⟨gb125, 1, none⟩ = some (.bool false) := (blk_cell BK125.out 1).trans rfl
                        have hcz68_2 : wc.cell? ⟨gb125, 2, none⟩ = some (.int .i64 a1_2) := (blk_cell BK125.out 2).trans rfl
                        have hcz68_3 : wc.cell? ⟨gb125, 3, none⟩ = some (.int .i64 a1_3) := (blk_cell BK125.out 3).trans rfl
                        have hfz68_0 := blk_frozen BK125.out 0
                        have hfz68_1 := blk_frozen BK125.out 1
                        have hfz68_2 := blk_frozen BK125.out 2
                        have hfz68_3 := blk_frozen BK125.out 3
                        have hcz69_0 : wc.cell? ⟨gb126, 0, none⟩ = some (.int .i64 0) := (blk_cell BK126.out 0).trans rfl
                        have hcz69_1 : wc.cell? ⟨gb126, 1, none⟩ = some (.int .i64 0) := (blk_cell BK126.out 1).trans rfl
                        have hcz69_2 : wc.cell? ⟨gb126, 2, none⟩ = some (.int .i64 0) := (blk_cell BK126.out 2).trans rfl
                        have hfz69_0 := blk_frozen BK126.out 0
                        have hfz69_1 := blk_frozen BK126.out 1
                        have hfz69_2 := blk_frozen BK126.out 2
                        go_wp2
                        refine bodyPost_ret (results_cell_row rfl _ _ gb126 26 #[.int .i64 0, .int .i64 0, .int .i64 0] (0, 0) _ rfl (by (with_reducible repeat (first | refine blk_drewN ?_ _ | refine blk_drew ?_ | refine blk_alloc ?_ _)); refine blk_put (cs := #[.int .i64 0, .int .i64 0, .int .i64 0]) ?_ 2 _ rfl; (with_reducible repeat (first | refine blk_drewN ?_ _ | refine blk_drew ?_ | refine blk_alloc ?_ _)); refine blk_put (cs := #[.int .i64 0, .int .i64 0, .int .i64 0]) ?_ 1 _ rfl; (with_reducible repeat (first | refine blk_drewN ?_ _ | refine blk_drew ?_ | refine blk_alloc ?_ _)); refine blk_put (cs := #[.int .i64 0, .int .i64 0, .int .i64 0]) ?_ 0 _ rfl; (with_reducible repeat (first | refine blk_drewN ?_ _ | refine blk_drew ?_ | refine blk_alloc ?_ _)); exact BK126.out) Try.underlying26 rfl (by kernel_rfl)) rfl ?_
                        exact ⟨by first | rfl | (simp [errW_none, errW_some] <;> rfl) | (simp [*, errW_none, errW_some] <;> rfl), by repeat (first | (with_reducible first | exact HB.out | apply below_alloc | apply pw_below_drewN | apply below_drew1 | refine below_set ?_ GE124.out | refine below_set ?_ GE125.out | refine below_set ?_ GE126.out) | exact HB.out)⟩
                      · rw [if_neg c63] at H
                        have c63b0 : (x5_36 == 0) = false := beq_eq_false_iff_ne.mpr c63
                        have c63b1 : (x5_36 != 0) = true := bne_iff_ne.mpr c63
                        simp only [Option.some.injEq, Prod.mk.injEq] at H
                        obtain ⟨rfl, rfl, rfl⟩ := H
                        have hnb70 := NB124_125.out
                        have hnc70 := NB125_124.out
                        have hnb71 := NB124_126.out
                        have hnc71 := NB126_124.out
                        have hcz72_0 : wc.cell? ⟨gb124, 0, none⟩ = some (.int .i64 a0_0) := (blk_cell BK124.out 0).trans rfl
                        have hcz72_1 : wc.cell? ⟨gb124, 1, none⟩ = some (.int .i64 a0_1) := (blk_cell BK124.out 1).trans rfl
                        have hcz72_2 : wc.cell? ⟨gb124, 2, none⟩ = some (.int .i64 a0_2) := (blk_cell BK124.out 2).trans rfl
                        have hfz72_0 := blk_frozen BK124.out 0
                        have hfz72_1 := blk_frozen BK124.out 1
                        have hfz72_2 := blk_frozen BK124.out 2
                        have hnb73 := NB125_126.out
                        have hnc73 := NB126_125.out
                        have hcz74_0 : wc.cell? ⟨gb125, 0, none⟩ = some (.int .i64 a1_0) := (blk_cell BK125.out 0).trans rfl
                        have hcz74_1 : wc.cell? ⟨gb125, 1, none⟩ = some (.bool false) := (blk_cell BK125.out 1).trans rfl
                        have hcz74_2 : wc.cell? ⟨gb125, 2, none⟩ = some (.int .i64 a1_2) := (blk_cell BK125.out 2).trans rfl
                        have hcz74_3 : wc.cell? ⟨gb125, 3, none⟩ = some (.int .i64 a1_3) := (blk_cell BK125.out 3).trans rfl
                        have hfz74_0 := blk_frozen BK125.out 0
                        have hfz74_1 := blk_frozen BK125.out 1
                        have hfz74_2 := blk_frozen BK125.out 2
                        have hfz74_3 := blk_frozen BK125.out 3
                        have hcz75_0 : wc.cell? ⟨gb126, 0, none⟩ = some (.int .i64 0) := (blk_cell BK126.out 0).trans rfl
                        have hcz75_1 : wc.cell? ⟨gb126, 1, none⟩ = some (.int .i64 0) := (blk_cell BK126.out 1).trans rfl
                        have hcz75_2 : wc.cell? ⟨gb126, 2, none⟩ = some (.int .i64 0) := (blk_cell BK126.out 2).trans rfl
                        have hfz75_0 := blk_frozen BK126.out 0
                        have hfz75_1 := blk_frozen BK126.out 1
                        have hfz75_2 := blk_frozen BK126.out 2
                        go_wp2
                        refine bodyPost_ret (results_cell_row rfl _ _ gb126 26 #[.int .i64 a0_0, .int .i64 x5_36, .int .i64 x5_36] (0, 0) _ rfl (by (with_reducible repeat (first | refine blk_drewN ?_ _ | refine blk_drew ?_ | refine blk_alloc ?_ _)); refine blk_put (cs := #[.int .i64 a0_0, .int .i64 x5_36, .int .i64 0]) ?_ 2 _ rfl; (with_reducible repeat (first | refine blk_drewN ?_ _ | refine blk_drew ?_ | refine blk_alloc ?_ _)); refine blk_put (cs := #[.int .i64 a0_0, .int .i64 0, .int .i64 0]) ?_ 1 _ rfl; (with_reducible repeat (first | refine blk_drewN ?_ _ | refine blk_drew ?_ | refine blk_alloc ?_ _)); refine blk_put (cs := #[.int .i64 0, .int .i64 0, .int .i64 0]) ?_ 0 _ rfl; (with_reducible repeat (first | refine blk_drewN ?_ _ | refine blk_drew ?_ | refine blk_alloc ?_ _)); exact BK126.out) Try.underlying26 rfl (by kernel_rfl)) rfl ?_
                        exact ⟨by first | rfl | (simp [errW_none, errW_some] <;> rfl) | (simp [*, errW_none, errW_some] <;> rfl), by repeat (first | (with_reducible first | exact HB.out | apply below_alloc | apply pw_below_drewN | apply below_drew1 | refine below_set ?_ GE124.out | refine below_set ?_ GE125.out | refine below_set ?_ GE126.out) | exact HB.out)⟩
                  · rw [if_neg c55] at H
                    have c55b0 : (a0_0 == 2) = false := beq_eq_false_iff_ne.mpr c55
                    have c55b1 : (a0_0 != 2) = true := bne_iff_ne.mpr c55
                    simp only [Option.some.injEq, Prod.mk.injEq] at H
                    obtain ⟨rfl, rfl, rfl⟩ := H
                    have hnb76 := NB124_125.out
                    have hnc76 := NB125_124.out
                    have hnb77 := NB124_126.out
                    have hnc77 := NB126_124.out
                    have hcz78_0 : wc.cell? ⟨gb124, 0, none⟩ = some (.int .i64 a0_0) := (blk_cell BK124.out 0).trans rfl
                    have hcz78_1 : wc.cell? ⟨gb124, 1, none⟩ = some (.int .i64 a0_1) := (blk_cell BK124.out 1).trans rfl
                    have hcz78_2 : wc.cell? ⟨gb124, 2, none⟩ = some (.int .i64 a0_2) := (blk_cell BK124.out 2).trans rfl
                    have hfz78_0 := blk_frozen BK124.out 0
                    have hfz78_1 := blk_frozen BK124.out 1
                    have hfz78_2 := blk_frozen BK124.out 2
                    have hnb79 := NB126_125.out
                    have hnc79 := NB125_126.out
                    have hcz80_0 : wc.cell? ⟨gb126, 0, none⟩ = some (.int .i64 0) := (blk_cell BK126.out 0).trans rfl
                    have hcz80_1 : wc.cell? ⟨gb126, 1, none⟩ = some (.int .i64 0) := (blk_cell BK126.out 1).trans rfl
                    have hcz80_2 : wc.cell? ⟨gb126, 2, none⟩ = some (.int .i64 0) := (blk_cell BK126.out 2).trans rfl
                    have hfz80_0 := blk_frozen BK126.out 0
                    have hfz80_1 := blk_frozen BK126.out 1
                    have hfz80_2 := blk_frozen BK126.out 2
                    go_wp2
                    refine bodyPost_ret (results_cell_row rfl _ _ gb126 26 #[.int .i64 a0_0, .int .i64 x5_36, .int .i64 x5_36] (0, 0) _ rfl (by (with_reducible repeat (first | refine blk_drewN ?_ _ | refine blk_drew ?_ | refine blk_alloc ?_ _)); refine blk_put (cs := #[.int .i64 a0_0, .int .i64 x5_36, .int .i64 0]) ?_ 2 _ rfl; (with_reducible repeat (first | refine blk_drewN ?_ _ | refine blk_drew ?_ | refine blk_alloc ?_ _)); refine blk_put (cs := #[.int .i64 a0_0, .int .i64 0, .int .i64 0]) ?_ 1 _ rfl; (with_reducible repeat (first | refine blk_drewN ?_ _ | refine blk_drew ?_ | refine blk_alloc ?_ _)); refine blk_put (cs := #[.int .i64 0, .int .i64 0, .int .i64 0]) ?_ 0 _ rfl; (with_reducible repeat (first | refine blk_drewN ?_ _ | refine blk_drew ?_ | refine blk_alloc ?_ _)); exact BK126.out) Try.underlying26 rfl (by kernel_rfl)) rfl ?_
                    exact ⟨by first | rfl | (simp [errW_none, errW_some] <;> rfl) | (simp [*, errW_none, errW_some] <;> rfl), by repeat (first | (with_reducible first | exact HB.out | apply below_alloc | apply pw_below_drewN | apply below_drew1 | refine below_set ?_ GE124.out | refine below_set ?_ GE125.out | refine below_set ?_ GE126.out) | exact HB.out)⟩

end Go.Proofs.Ytellgcahkpaldaa.PDetectorSmall
