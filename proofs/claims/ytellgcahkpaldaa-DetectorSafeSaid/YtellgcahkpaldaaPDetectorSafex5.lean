-- PRINTED BY print.sh 35421559b90ae4d0a3588c463048766b98c2df88dd9212a6774a882060cdf62d: not written by this session
import Derived.Test.YtellgcahkpaldaaPDetectorSafex0
import Derived.Test.YtellgcahkpaldaaPDetectorSafex2
import Derived.Test.YtellgcahkpaldaaPDetectorSafex3
import Derived.Test.YtellgcahkpaldaaPDetectorSafex4
namespace Go.Proofs.Ytellgcahkpaldaa.PDetectorSafe
open Go.RowKit Go.Proofs.YtellgcahkpaldaaW.PrintWords Go.Proofs.YtellgcahkpaldaaW.PrintLast Go.Proofs.YtellgcahkpaldaaW.PrintMore
attribute [local go_sem] max2_int min2_int max_two min_two max_three min_three max_four min_four   -- for this text's walks alone
set_option linter.unusedVariables false
set_option linter.unusedSimpArgs false

/-! ### railplanlaw31_DetectorSafe: function 7 -/
mutual
def railplanlaw31_DetectorSafe.l0 : Nat → Int → List Int → Int → Int → Int → Int → Option (Bool)
  | 0, _, _, _, _, _, _ => none
  | k + 1, x5, x129000, x129001, x130000, x130001, x130002 => (railplankeep_Source_Left.f x129000 x129001).bind fun bt130 => (if bt130.1 = true then ((railplankeep_Source_Next.f x129000 bt130.2 4).bind fun bt133 => (if x5 < (wrap64 (1 + bt133.1)) then (railplanlaw31_DetectorSafe.j1 k x5 (wrap64 (1 + bt133.1)) true x129000 bt133.2 x130000 x130001 x130002) else ((railplankeep_Source_Next.f x129000 bt133.2 2).bind fun bt135 => (railplanlaw31_DetectorSafe.j1 k x5 (wrap64 (1 + bt133.1)) (bt135.1 == 0) x129000 bt135.2 x130000 x130001 x130002)))) else ((railplanlaw31_awake.f k).bind fun t132 => (some t132)))
def railplanlaw31_DetectorSafe.j1 : Nat → Int → Int → Bool → List Int → Int → Int → Int → Int → Option (Bool)
  | 0, _, _, _, _, _, _, _, _ => none
  | k + 1, x5, x6, x7, x129000, x129001, x130000, x130001, x130002 => (railplankeep_Source_Next.f x129000 x129001 8).bind fun bt138 => (if bt138.1 = 0 then ((railplankeep_Source_Next.f x129000 bt138.2 9).bind fun bt140 => (railplanlaw31_DetectorSafe.j2 k x5 x6 x7 x129000 bt140.2 x130000 x130001 x130002 0 x7 (wrap64 (bt140.1 - 2)) x6)) else (if bt138.1 = 1 then ((railplankeep_Source_Next.f x129000 bt138.2 9).bind fun bt142 => (railplanlaw31_DetectorSafe.j2 k x5 x6 x7 x129000 bt142.2 x130000 x130001 x130002 0 x7 x6 (wrap64 (bt142.1 - 2)))) else (railplanlaw31_DetectorSafe.j2 k x5 x6 x7 x129000 bt138.2 x130000 x130001 x130002 0 x7 x6 x6)))
def railplanlaw31_DetectorSafe.j2 : Nat → Int → Int → Bool → List Int → Int → Int → Int → Int → Int → Bool → Int → Int → Option (Bool)
  | 0, _, _, _, _, _, _, _, _, _, _, _, _ => none
  | k + 1, x5, x6, x7, x129000, x129001, x130000, x130001, x130002, x138000, x138001, x138002, x138003 => if x7 = true then (railplanlaw31_DetectorSafe.j3 k (wrap64 (x5 + x6)) x129000 x129001 x130000 x130001 x130002 x138000 x138001 x138002 x138003) else (railplanlaw31_DetectorSafe.j3 k (wrap64 (x5 - x6)) x129000 x129001 x130000 x130001 x130002 x138000 x138001 x138002 x138003)
def railplanlaw31_DetectorSafe.j3 : Nat → Int → List Int → Int → Int → Int → Int → Int → Bool → Int → Int → Option (Bool)
  | 0, _, _, _, _, _, _, _, _, _, _ => none
  | k + 1, x5, x129000, x129001, x130000, x130001, x130002, x138000, x138001, x138002, x138003 => (detector_Feed.f k x130000 x130001 x130002 x138000 x138001 x138002 x138003).bind fun bt144 => (if x5 = 0 then ((railplankeep_Source_Next.f x129000 x129001 3).bind fun bt147 => (railplanlaw31_DetectorSafe.j4 k x5 (bt147.1 == 0) x129000 bt147.2 bt144.1 bt144.2.1 bt144.2.2)) else (railplanlaw31_DetectorSafe.j4 k x5 false x129000 x129001 bt144.1 bt144.2.1 bt144.2.2))
def railplanlaw31_DetectorSafe.j4 : Nat → Int → Bool → List Int → Int → Int → Int → Int → Option (Bool)
  | 0, _, _, _, _, _, _, _ => none
  | k + 1, x5, x59, x129000, x129001, x130000, x130001, x130002 => if x59 = true then ((detector_Reset.f x130000 x130001 x130002).bind fun bt149 => ((detector_Report.f k bt149.1 bt149.2.1 bt149.2.2).bind fun t152 => (if t152 = 0 then (if x5 = 0 then (railplanlaw31_DetectorSafe.l0 k x5 x129000 x129001 bt149.1 bt149.2.1 bt149.2.2) else (some false)) else (railplanlaw31_DetectorSafe.l0 k x5 x129000 x129001 bt149.1 bt149.2.1 bt149.2.2)))) else ((detector_Report.f k x130000 x130001 x130002).bind fun t153 => (if t153 = 0 then (if x5 = 0 then (railplanlaw31_DetectorSafe.l0 k x5 x129000 x129001 x130000 x130001 x130002) else (some false)) else (railplanlaw31_DetectorSafe.l0 k x5 x129000 x129001 x130000 x130001 x130002)))
end
def railplanlaw31_DetectorSafe.f (k : Nat) (l0 : List Int) : Option (Bool) := (railplankeep_From.f l0).bind fun bt126 => (railplanlaw31_DetectorSafe.l0 k 0 bt126.1 bt126.2 0 0 0)
theorem railplanlaw31_DetectorSafe.mono_l : ∀ k, (∀ y0 y1 y2 y3 y4 y5, LeO (railplanlaw31_DetectorSafe.l0 k y0 y1 y2 y3 y4 y5) (railplanlaw31_DetectorSafe.l0 (k + 1) y0 y1 y2 y3 y4 y5)) ∧ (∀ y0 y1 y2 y3 y4 y5 y6 y7, LeO (railplanlaw31_DetectorSafe.j1 k y0 y1 y2 y3 y4 y5 y6 y7) (railplanlaw31_DetectorSafe.j1 (k + 1) y0 y1 y2 y3 y4 y5 y6 y7)) ∧ (∀ y0 y1 y2 y3 y4 y5 y6 y7 y8 y9 y10 y11, LeO (railplanlaw31_DetectorSafe.j2 k y0 y1 y2 y3 y4 y5 y6 y7 y8 y9 y10 y11) (railplanlaw31_DetectorSafe.j2 (k + 1) y0 y1 y2 y3 y4 y5 y6 y7 y8 y9 y10 y11)) ∧ (∀ y0 y1 y2 y3 y4 y5 y6 y7 y8 y9, LeO (railplanlaw31_DetectorSafe.j3 k y0 y1 y2 y3 y4 y5 y6 y7 y8 y9) (railplanlaw31_DetectorSafe.j3 (k + 1) y0 y1 y2 y3 y4 y5 y6 y7 y8 y9)) ∧ (∀ y0 y1 y2 y3 y4 y5 y6, LeO (railplanlaw31_DetectorSafe.j4 k y0 y1 y2 y3 y4 y5 y6) (railplanlaw31_DetectorSafe.j4 (k + 1) y0 y1 y2 y3 y4 y5 y6))
  | 0 => ⟨fun _ _ _ _ _ _ r h => by simp [railplanlaw31_DetectorSafe.l0] at h, fun _ _ _ _ _ _ _ _ r h => by simp [railplanlaw31_DetectorSafe.j1] at h, fun _ _ _ _ _ _ _ _ _ _ _ _ r h => by simp [railplanlaw31_DetectorSafe.j2] at h, fun _ _ _ _ _ _ _ _ _ _ r h => by simp [railplanlaw31_DetectorSafe.j3] at h, fun _ _ _ _ _ _ _ r h => by simp [railplanlaw31_DetectorSafe.j4] at h⟩
  | k + 1 => by
    obtain ⟨ih0, ih1, ih2, ih3, ih4⟩ := railplanlaw31_DetectorSafe.mono_l k
    refine ⟨?_, ?_, ?_, ?_, ?_⟩
    · intro y0 y1 y2 y3 y4 y5
      unfold railplanlaw31_DetectorSafe.l0
      repeat' first
      | (with_reducible exact ih0 _ _ _ _ _ _)
      | (with_reducible exact ih1 _ _ _ _ _ _ _ _)
      | (with_reducible exact ih2 _ _ _ _ _ _ _ _ _ _ _ _)
      | (with_reducible exact ih3 _ _ _ _ _ _ _ _ _ _)
      | (with_reducible exact ih4 _ _ _ _ _ _ _)
      | (with_reducible exact detector_Feed.mono _ _ _ _ _ _ _ _)
      | (with_reducible exact detector_Report.mono _ _ _ _)
      | (with_reducible exact railplanlaw31_awake.mono _)
      | (with_reducible exact LeO.refl _)
      | (with_reducible exact LeO.none _)
      | (with_reducible refine LeO.ite ?_ ?_)
      | (with_reducible refine LeO.bind ?_ (fun _ => ?_))
      | exact ih0 _ _ _ _ _ _
      | exact ih1 _ _ _ _ _ _ _ _
      | exact ih2 _ _ _ _ _ _ _ _ _ _ _ _
      | exact ih3 _ _ _ _ _ _ _ _ _ _
      | exact ih4 _ _ _ _ _ _ _
      | exact detector_Feed.mono _ _ _ _ _ _ _ _
      | exact detector_Report.mono _ _ _ _
      | exact railplanlaw31_awake.mono _
      | exact LeO.none _
      | refine LeO.ite ?_ ?_
      | refine LeO.bind ?_ (fun _ => ?_)
    · intro y0 y1 y2 y3 y4 y5 y6 y7
      unfold railplanlaw31_DetectorSafe.j1
      repeat' first
      | (with_reducible exact ih0 _ _ _ _ _ _)
      | (with_reducible exact ih1 _ _ _ _ _ _ _ _)
      | (with_reducible exact ih2 _ _ _ _ _ _ _ _ _ _ _ _)
      | (with_reducible exact ih3 _ _ _ _ _ _ _ _ _ _)
      | (with_reducible exact ih4 _ _ _ _ _ _ _)
      | (with_reducible exact detector_Feed.mono _ _ _ _ _ _ _ _)
      | (with_reducible exact detector_Report.mono _ _ _ _)
      | (with_reducible exact railplanlaw31_awake.mono _)
      | (with_reducible exact LeO.refl _)
      | (with_reducible exact LeO.none _)
      | (with_reducible refine LeO.ite ?_ ?_)
      | (with_reducible refine LeO.bind ?_ (fun _ => ?_))
      | exact ih0 _ _ _ _ _ _
      | exact ih1 _ _ _ _ _ _ _ _
      | exact ih2 _ _ _ _ _ _ _ _ _ _ _ _
      | exact ih3 _ _ _ _ _ _ _ _ _ _
      | exact ih4 _ _ _ _ _ _ _
      | exact detector_Feed.mono _ _ _ _ _ _ _ _
      | exact detector_Report.mono _ _ _ _
      | exact railplanlaw31_awake.mono _
      | exact LeO.none _
      | refine LeO.ite ?_ ?_
      | refine LeO.bind ?_ (fun _ => ?_)
    · intro y0 y1 y2 y3 y4 y5 y6 y7 y8 y9 y10 y11
      unfold railplanlaw31_DetectorSafe.j2
      repeat' first
      | (with_reducible exact ih0 _ _ _ _ _ _)
      | (with_reducible exact ih1 _ _ _ _ _ _ _ _)
      | (with_reducible exact ih2 _ _ _ _ _ _ _ _ _ _ _ _)
      | (with_reducible exact ih3 _ _ _ _ _ _ _ _ _ _)
      | (with_reducible exact ih4 _ _ _ _ _ _ _)
      | (with_reducible exact detector_Feed.mono _ _ _ _ _ _ _ _)
      | (with_reducible exact detector_Report.mono _ _ _ _)
      | (with_reducible exact railplanlaw31_awake.mono _)
      | (with_reducible exact LeO.refl _)
      | (with_reducible exact LeO.none _)
      | (with_reducible refine LeO.ite ?_ ?_)
      | (with_reducible refine LeO.bind ?_ (fun _ => ?_))
      | exact ih0 _ _ _ _ _ _
      | exact ih1 _ _ _ _ _ _ _ _
      | exact ih2 _ _ _ _ _ _ _ _ _ _ _ _
      | exact ih3 _ _ _ _ _ _ _ _ _ _
      | exact ih4 _ _ _ _ _ _ _
      | exact detector_Feed.mono _ _ _ _ _ _ _ _
      | exact detector_Report.mono _ _ _ _
      | exact railplanlaw31_awake.mono _
      | exact LeO.none _
      | refine LeO.ite ?_ ?_
      | refine LeO.bind ?_ (fun _ => ?_)
    · intro y0 y1 y2 y3 y4 y5 y6 y7 y8 y9
      unfold railplanlaw31_DetectorSafe.j3
      repeat' first
      | (with_reducible exact ih0 _ _ _ _ _ _)
      | (with_reducible exact ih1 _ _ _ _ _ _ _ _)
      | (with_reducible exact ih2 _ _ _ _ _ _ _ _ _ _ _ _)
      | (with_reducible exact ih3 _ _ _ _ _ _ _ _ _ _)
      | (with_reducible exact ih4 _ _ _ _ _ _ _)
      | (with_reducible exact detector_Feed.mono _ _ _ _ _ _ _ _)
      | (with_reducible exact detector_Report.mono _ _ _ _)
      | (with_reducible exact railplanlaw31_awake.mono _)
      | (with_reducible exact LeO.refl _)
      | (with_reducible exact LeO.none _)
      | (with_reducible refine LeO.ite ?_ ?_)
      | (with_reducible refine LeO.bind ?_ (fun _ => ?_))
      | exact ih0 _ _ _ _ _ _
      | exact ih1 _ _ _ _ _ _ _ _
      | exact ih2 _ _ _ _ _ _ _ _ _ _ _ _
      | exact ih3 _ _ _ _ _ _ _ _ _ _
      | exact ih4 _ _ _ _ _ _ _
      | exact detector_Feed.mono _ _ _ _ _ _ _ _
      | exact detector_Report.mono _ _ _ _
      | exact railplanlaw31_awake.mono _
      | exact LeO.none _
      | refine LeO.ite ?_ ?_
      | refine LeO.bind ?_ (fun _ => ?_)
    · intro y0 y1 y2 y3 y4 y5 y6
      unfold railplanlaw31_DetectorSafe.j4
      repeat' first
      | (with_reducible exact ih0 _ _ _ _ _ _)
      | (with_reducible exact ih1 _ _ _ _ _ _ _ _)
      | (with_reducible exact ih2 _ _ _ _ _ _ _ _ _ _ _ _)
      | (with_reducible exact ih3 _ _ _ _ _ _ _ _ _ _)
      | (with_reducible exact ih4 _ _ _ _ _ _ _)
      | (with_reducible exact detector_Feed.mono _ _ _ _ _ _ _ _)
      | (with_reducible exact detector_Report.mono _ _ _ _)
      | (with_reducible exact railplanlaw31_awake.mono _)
      | (with_reducible exact LeO.refl _)
      | (with_reducible exact LeO.none _)
      | (with_reducible refine LeO.ite ?_ ?_)
      | (with_reducible refine LeO.bind ?_ (fun _ => ?_))
      | exact ih0 _ _ _ _ _ _
      | exact ih1 _ _ _ _ _ _ _ _
      | exact ih2 _ _ _ _ _ _ _ _ _ _ _ _
      | exact ih3 _ _ _ _ _ _ _ _ _ _
      | exact ih4 _ _ _ _ _ _ _
      | exact detector_Feed.mono _ _ _ _ _ _ _ _
      | exact detector_Report.mono _ _ _ _
      | exact railplanlaw31_awake.mono _
      | exact LeO.none _
      | refine LeO.ite ?_ ?_
      | refine LeO.bind ?_ (fun _ => ?_)
theorem railplanlaw31_DetectorSafe.mono : ∀ a0 k, LeO (railplanlaw31_DetectorSafe.f k a0) (railplanlaw31_DetectorSafe.f (k + 1) a0) := by
  intro a0 k
  obtain ⟨ih0, ih1, ih2, ih3, ih4⟩ := railplanlaw31_DetectorSafe.mono_l k
  unfold railplanlaw31_DetectorSafe.f
  repeat' first
      | (with_reducible exact ih0 _ _ _ _ _ _)
      | (with_reducible exact ih1 _ _ _ _ _ _ _ _)
      | (with_reducible exact ih2 _ _ _ _ _ _ _ _ _ _ _ _)
      | (with_reducible exact ih3 _ _ _ _ _ _ _ _ _ _)
      | (with_reducible exact ih4 _ _ _ _ _ _ _)
      | (with_reducible exact detector_Feed.mono _ _ _ _ _ _ _ _)
      | (with_reducible exact detector_Report.mono _ _ _ _)
      | (with_reducible exact railplanlaw31_awake.mono _)
      | (with_reducible exact LeO.refl _)
      | (with_reducible exact LeO.none _)
      | (with_reducible refine LeO.ite ?_ ?_)
      | (with_reducible refine LeO.bind ?_ (fun _ => ?_))
      | exact ih0 _ _ _ _ _ _
      | exact ih1 _ _ _ _ _ _ _ _
      | exact ih2 _ _ _ _ _ _ _ _ _ _ _ _
      | exact ih3 _ _ _ _ _ _ _ _ _ _
      | exact ih4 _ _ _ _ _ _ _
      | exact detector_Feed.mono _ _ _ _ _ _ _ _
      | exact detector_Report.mono _ _ _ _
      | exact railplanlaw31_awake.mono _
      | exact LeO.none _
      | refine LeO.ite ?_ ?_
      | refine LeO.bind ?_ (fun _ => ?_)
set_option maxHeartbeats 8000000 in
set_option maxRecDepth 100000 in
theorem railplanlaw31_DetectorSafe.calls (k : Nat) (A0 : Option Addr) (c0 : Nat) (l0 : List Int) (r : Bool) (w : World) (hr0 : Kd.C (Kd.int .i64) w A0 l0.length l0) (hc0 : l0.length ≤ c0) (h : railplanlaw31_DetectorSafe.f k l0 = some r) :
    Calls Try.prog 7 #[.slice A0 l0.length c0] w fun e w' => e = .returned (.bool r) ∧ Below w.heap.size w w' := by
  have hu26 := Try.underlying26
  have hu31 := Try.underlying31
  have HR0 := Aside0.mk hr0
  have HC0 := Aside0.mk hc0
  clear hr0 hc0
  have HB := Aside0.mk (Below.refl w.heap.size w)
  have H : ((railplankeep_From.f l0).bind fun bt126 => (railplanlaw31_DetectorSafe.l0 k 0 bt126.1 bt126.2 0 0 0)) = some r := h
  clear h
  replace H := Option.bind_eq_some_iff.mp H
  obtain ⟨⟨t126, t127⟩, A20, H⟩ := H
  replace H : (railplanlaw31_DetectorSafe.l0 k 0 t126 t127 0 0 0) = some r := H
  have A2 := Aside0.mk A20
  clear A20
  have H' := Aside0.mk H
  clear H
  go_enter Try.func7, Try.ntmps7
  go_wp2_with (first | ((with_reducible refine gate_callee (f := 11) rfl ?_); refine goesL_ (some 10) rfl rfl Try.func11 (by kernel_rfl) rfl #[.slice A0 l0.length c0] rfl (by (try simp only [List.map_toArray, List.map_cons, List.map_nil]); first | done | rfl | (simp only [List.length_drop, List.length_take]; rfl)) ?_; (with_reducible refine (railplankeep_From.calls _ _ l0 t126 t127 w _ ?side1 ?side2 ?side3 A2.out).mono ?_); (case side1 => repeat (first | (with_reducible first | exact HB.out | apply below_alloc | apply pw_below_drewN | apply below_drew1) | exact HB.out)); (case side2 => exact HR0.out); (case side3 => exact HC0.out); rintro e w3 ⟨g128, rfl, hi, hb, hb2⟩; refine ⟨_, rfl, ?_⟩; have n0_ := Aside0.mk (hb); have n1_ := Aside0.mk (hi); clear HB; have HB := n0_; have HI128 := n1_; clear n0_ n1_; (try clear hb); (try clear hb2); (try clear hk); (try clear hi)) | ((with_reducible refine gate_dst (N := 4) rfl ?_); refine box_event ?hg (N := 4) ?hd (cs := #[.int .i64 0, .int .i64 0, .int .i64 0]) (t := 26) ?hr ?_; (case hd => rfl); (case hg => rfl); (case hr => first | (go_simp; done) | (go_simp; rfl)); intro gb129 hg w4 hbox hb; have n0_ := Aside0.mk (IsS48.below (by repeat (first | (with_reducible first | exact HI128.out | apply IsS48.alloc | apply IsS48.drewN | apply IsS48.drew | apply IsS48.set_1) | exact HI128.out)) hb); have n1_ := Aside0.mk (below_step (by repeat (first | (with_reducible first | exact HB.out | apply below_alloc | apply pw_below_drewN | apply below_drew1 | refine below_set ?_ (IsS48.ge HI128.out)) | exact HB.out)) hb); have n2_ := Aside0.mk (hbox); have n3_ := Aside0.mk ((by rw [hg]; exact (below_size (by repeat (first | (with_reducible first | exact HB.out | apply below_alloc | apply pw_below_drewN | apply below_drew1 | refine below_set ?_ (IsS48.ge HI128.out)) | exact HB.out))) : w.heap.size ≤ gb129)); have n4_ := Aside0.mk ((by rw [hg]; exact (below_size (by repeat (first | (with_reducible first | exact HB.out | apply below_alloc | apply pw_below_drewN | apply below_drew1 | refine below_set ?_ (IsS48.ge HI128.out)) | exact HB.out))) : w.heap.size ≤ gb129)); have n5_ := Aside0.mk ((by rw [hg]; exact Nat.ne_of_lt (IsS48.lt (show IsS48 w _ g128 t126 t127 from by repeat (first | (with_reducible first | exact HI128.out | apply IsS48.alloc | apply IsS48.drewN | apply IsS48.drew | apply IsS48.set_1) | exact HI128.out))) : g128 ≠ gb129)); have n6_ := Aside0.mk ((by rw [hg]; exact Nat.ne_of_gt (IsS48.lt (show IsS48 w _ g128 t126 t127 from by repeat (first | (with_reducible first | exact HI128.out | apply IsS48.alloc | apply IsS48.drewN | apply IsS48.drew | apply IsS48.set_1) | exact HI128.out))) : gb129 ≠ g128)); clear HI128; clear HB; have HI128 := n0_; have HB := n1_; have BK129 := n2_; have GW129 := n3_; have GE129 := n4_; have NB128_129 := n5_; have NB129_128 := n6_; clear n0_ n1_ n2_ n3_ n4_ n5_ n6_; clear hb hbox hg; have hnb5 := NB129_128.out; have hnc5 := NB128_129.out; have hcz6_0 : w4.cell? ⟨gb129, 0, none⟩ = some (.int .i64 0) := (blk_cell BK129.out 0).trans rfl; have hcz6_1 : w4.cell? ⟨gb129, 1, none⟩ = some (.int .i64 0) := (blk_cell BK129.out 1).trans rfl; have hcz6_2 : w4.cell? ⟨gb129, 2, none⟩ = some (.int .i64 0) := (blk_cell BK129.out 2).trans rfl; have hfz6_0 := blk_frozen BK129.out 0; have hfz6_1 := blk_frozen BK129.out 1; have hfz6_2 := blk_frozen BK129.out 2))
  go_loopg [5] k (fun kq v5 w' => ∃ (x5_1 : Int) (x129001_1 : Int) (x130000_1 : Int) (x130001_1 : Int) (x130002_1 : Int), v5 = .int .i64 x5_1 ∧ Aside0 (railplanlaw31_DetectorSafe.l0 kq x5_1 t126 x129001_1 x130000_1 x130001_1 x130002_1 = some r) ∧ Aside0 (kq ≤ k) ∧ Aside0 (w'.heap[gb129]? = some (.cells #[.int .i64 x130000_1, .int .i64 x130001_1, .int .i64 x130002_1] 26 (0, 0))) ∧ Aside0 (IsS48 w w' g128 t126 x129001_1) ∧ Aside0 (Below w.heap.size w w'))
  case atStart => exact ⟨(0), (t127), (0), (0), (0), (by first | rfl | (simp; done) | (simp [*]; done)), H', ⟨Nat.le_refl _⟩, ⟨by (with_reducible repeat (first | refine blk_drewN ?_ _ | refine blk_drew ?_ | refine blk_alloc ?_ _)); refine blk_put (cs := #[.int .i64 0, .int .i64 0, .int .i64 0]) ?_ 2 _ rfl; (with_reducible repeat (first | refine blk_drewN ?_ _ | refine blk_drew ?_ | refine blk_alloc ?_ _)); refine blk_put (cs := #[.int .i64 0, .int .i64 0, .int .i64 0]) ?_ 1 _ rfl; (with_reducible repeat (first | refine blk_drewN ?_ _ | refine blk_drew ?_ | refine blk_alloc ?_ _)); refine blk_put (cs := #[.int .i64 0, .int .i64 0, .int .i64 0]) ?_ 0 _ rfl; (with_reducible repeat (first | refine blk_drewN ?_ _ | refine blk_drew ?_ | refine blk_alloc ?_ _)); exact BK129.out⟩, ⟨by repeat (first | (with_reducible first | exact HI128.out | apply IsS48.alloc | apply IsS48.drewN | apply IsS48.drew | apply IsS48.set_1 | refine IsS48.far ?_ NB128_129.out _) | exact HI128.out)⟩, ⟨by repeat (first | (with_reducible first | exact HB.out | apply below_alloc | apply pw_below_drewN | apply below_drew1 | refine below_set ?_ (IsS48.ge HI128.out) | refine below_set ?_ GE129.out) | exact HB.out)⟩⟩
  case round =>
    clear H'
    try clear c1
    try clear p2
    try clear c5
    try clear hcz6_0
    try clear hcz6_1
    try clear hcz6_2
    try clear hfz6_0
    try clear hfz6_1
    try clear hfz6_2
    obtain ⟨x5_1, x129001_1, x130000_1, x130001_1, x130002_1, rfl, HA, HK1, BK129, HI128, HB⟩ := hrel
    cases gk with
    | zero => exact absurd HA.out (by simp [railplanlaw31_DetectorSafe.l0])
    | succ k1 =>
      have H := HA.out
      clear HA
      simp only [railplanlaw31_DetectorSafe.l0] at H
      replace H := Option.bind_eq_some_iff.mp H
      obtain ⟨⟨t130, t131⟩, A70, H⟩ := H
      replace H : (if t130 = true then ((railplankeep_Source_Next.f t126 t131 4).bind fun bt133 => (if x5_1 < (wrap64 (1 + bt133.1)) then (railplanlaw31_DetectorSafe.j1 k1 x5_1 (wrap64 (1 + bt133.1)) true t126 bt133.2 x130000_1 x130001_1 x130002_1) else ((railplankeep_Source_Next.f t126 bt133.2 2).bind fun bt135 => (railplanlaw31_DetectorSafe.j1 k1 x5_1 (wrap64 (1 + bt133.1)) (bt135.1 == 0) t126 bt135.2 x130000_1 x130001_1 x130002_1)))) else ((railplanlaw31_awake.f k1).bind fun t132 => (some t132))) = some r := H
      have A7 := Aside0.mk A70
      clear A70
      by_cases c8 : t130 = true
      · subst c8
        have H1 : ((railplankeep_Source_Next.f t126 t131 4).bind fun bt133 => (if x5_1 < (wrap64 (1 + bt133.1)) then (railplanlaw31_DetectorSafe.j1 k1 x5_1 (wrap64 (1 + bt133.1)) true t126 bt133.2 x130000_1 x130001_1 x130002_1) else ((railplankeep_Source_Next.f t126 bt133.2 2).bind fun bt135 => (railplanlaw31_DetectorSafe.j1 k1 x5_1 (wrap64 (1 + bt133.1)) (bt135.1 == 0) t126 bt135.2 x130000_1 x130001_1 x130002_1)))) = some r := by rw [if_pos rfl] at H; exact H
        clear H
        have H := H1
        clear H1
        replace H := Option.bind_eq_some_iff.mp H
        obtain ⟨⟨t133, t134⟩, A90, H⟩ := H
        replace H : (if x5_1 < (wrap64 (1 + t133)) then (railplanlaw31_DetectorSafe.j1 k1 x5_1 (wrap64 (1 + t133)) true t126 t134 x130000_1 x130001_1 x130002_1) else ((railplankeep_Source_Next.f t126 t134 2).bind fun bt135 => (railplanlaw31_DetectorSafe.j1 k1 x5_1 (wrap64 (1 + t133)) (bt135.1 == 0) t126 bt135.2 x130000_1 x130001_1 x130002_1))) = some r := H
        have A9 := Aside0.mk A90
        clear A90
        have HC10 := Aside0.mk H
        clear H
        go_upto_region 6 with (first | ((with_reducible refine gate_callee (f := 12) rfl ?_); refine goesL_ (some 13) rfl rfl Try.func12 (by kernel_rfl) rfl #[.pointer (some ⟨g128, 0, none⟩)] rfl (by (try simp only [List.map_toArray, List.map_cons, List.map_nil]); first | done | rfl | (simp only [List.length_drop, List.length_take]; rfl)) ?_; (with_reducible refine (railplankeep_Source_Left.calls g128 t126 x129001_1 true t131 w _ ?side1 ?side2 A7.out).mono ?_); (case side1 => repeat (first | (with_reducible first | exact HI128.out | apply IsS48.alloc | apply IsS48.drewN | apply IsS48.drew | apply IsS48.set_1 | refine IsS48.far ?_ NB128_129.out _) | exact HI128.out)); (case side2 => repeat (first | (with_reducible first | exact HB.out | apply below_alloc | apply pw_below_drewN | apply below_drew1 | refine below_set ?_ (IsS48.ge HI128.out) | refine below_set ?_ GE129.out) | exact HB.out)); rintro e w11 ⟨rfl, hi, hb, hk⟩; refine ⟨_, rfl, ?_⟩; have n0_ := Aside0.mk (KeepBut.blk hk (g' := gb129) (o := .cells #[.int .i64 x130000_1, .int .i64 x130001_1, .int .i64 x130002_1] 26 (0, 0)) (by (with_reducible repeat (first | refine blk_drewN ?_ _ | refine blk_drew ?_ | refine blk_alloc ?_ _)); exact BK129.out) NB129_128.out (by simp)); have n1_ := Aside0.mk (hb); have n2_ := Aside0.mk (hi); clear BK129; clear HB; clear HI128; have BK129 := n0_; have HB := n1_; have HI128 := n2_; clear n0_ n1_ n2_; (try clear hb); (try clear hb2); (try clear hk); (try clear hi)) | ((with_reducible refine gate_callee (f := 13) rfl ?_); refine goesL_ (some 15) rfl rfl Try.func13 (by kernel_rfl) rfl #[.pointer (some ⟨g128, 0, none⟩), .int .i64 4] rfl (by (try simp only [List.map_toArray, List.map_cons, List.map_nil]); first | done | rfl | (simp only [List.length_drop, List.length_take]; rfl)) ?_; (with_reducible refine (railplankeep_Source_Next.calls g128 t126 t131 4 t133 t134 w _ ?side1 ?side2 A9.out).mono ?_); (case side1 => repeat (first | (with_reducible first | exact HI128.out | apply IsS48.alloc | apply IsS48.drewN | apply IsS48.drew | apply IsS48.set_1 | refine IsS48.far ?_ NB128_129.out _) | exact HI128.out)); (case side2 => repeat (first | (with_reducible first | exact HB.out | apply below_alloc | apply pw_below_drewN | apply below_drew1 | refine below_set ?_ (IsS48.ge HI128.out) | refine below_set ?_ GE129.out) | exact HB.out)); rintro e w12 ⟨rfl, hi, hb, hk⟩; refine ⟨_, rfl, ?_⟩; have n0_ := Aside0.mk (KeepBut.blk hk (g' := gb129) (o := .cells #[.int .i64 x130000_1, .int .i64 x130001_1, .int .i64 x130002_1] 26 (0, 0)) (by (with_reducible repeat (first | refine blk_drewN ?_ _ | refine blk_drew ?_ | refine blk_alloc ?_ _)); exact BK129.out) NB129_128.out (by simp)); have n1_ := Aside0.mk (hb); have n2_ := Aside0.mk (hi); clear BK129; clear HB; clear HI128; have BK129 := n0_; have HB := n1_; have HI128 := n2_; clear n0_ n1_ n2_; (try clear hb); (try clear hb2); (try clear hk); (try clear hi)))
        (try simp only [Act.put, List.setIfInBounds_toArray, List.set_cons_zero, List.set_cons_succ])
        go_cut [7] (fun v7 wc => ∃ (kq : Nat) (x7_9 : Bool) (x129001_9 : Int), v7 = .bool x7_9 ∧ Aside0 (railplanlaw31_DetectorSafe.j1 kq x5_1 (wrap64 (1 + t133)) x7_9 t126 x129001_9 x130000_1 x130001_1 x130002_1 = some r) ∧ Aside0 (kq ≤ k1) ∧ Aside0 (wc.heap[gb129]? = some (.cells #[.int .i64 x130000_1, .int .i64 x130001_1, .int .i64 x130002_1] 26 (0, 0))) ∧ Aside0 (IsS48 w wc g128 t126 x129001_9) ∧ Aside0 (Below w.heap.size w wc))
        case first =>
          have H := HC10.out
          clear HC10
          by_cases c13 : x5_1 < (wrap64 (1 + t133))
          · rw [if_pos c13] at H
            have c13b0 : decide (x5_1 < (wrap64 (1 + t133))) = true := decide_eq_true c13
            clear c13
            (first | rw [c13b0] | (simp only [i64_w, i32_w]; rw [c13b0]) | skip)
            have H' := Aside0.mk H
            clear H
            go_wp2
            go_meet
            case rel => exact ⟨_, (true), (t134), (by first | rfl | (simp; done) | (simp [*]; done)), H', ⟨by have := HK1.out; first | omega | exact Nat.le_refl _⟩, ⟨by (with_reducible repeat (first | refine blk_drewN ?_ _ | refine blk_drew ?_ | refine blk_alloc ?_ _)); exact BK129.out⟩, ⟨by repeat (first | (with_reducible first | exact HI128.out | apply IsS48.alloc | apply IsS48.drewN | apply IsS48.drew | apply IsS48.set_1 | refine IsS48.far ?_ NB128_129.out _) | exact HI128.out)⟩, ⟨by repeat (first | (with_reducible first | exact HB.out | apply below_alloc | apply pw_below_drewN | apply below_drew1 | refine below_set ?_ (IsS48.ge HI128.out) | refine below_set ?_ GE129.out) | exact HB.out)⟩⟩
          · rw [if_neg c13] at H
            have c13b0 : decide (x5_1 < (wrap64 (1 + t133))) = false := decide_eq_false c13
            clear c13
            (first | rw [c13b0] | (simp only [i64_w, i32_w]; rw [c13b0]) | skip)
            replace H := Option.bind_eq_some_iff.mp H
            obtain ⟨⟨t135, t136⟩, A140, H⟩ := H
            replace H : (railplanlaw31_DetectorSafe.j1 k1 x5_1 (wrap64 (1 + t133)) (t135 == 0) t126 t136 x130000_1 x130001_1 x130002_1) = some r := H
            have A14 := Aside0.mk A140
            clear A140
            have H' := Aside0.mk H
            clear H
            go_wp2_with (first | (go_at_call 13; (with_reducible refine (railplankeep_Source_Next.calls g128 t126 t134 2 t135 t136 w _ ?side1 ?side2 A14.out).mono ?_); (case side1 => repeat (first | (with_reducible first | exact HI128.out | apply IsS48.alloc | apply IsS48.drewN | apply IsS48.drew | apply IsS48.set_1 | refine IsS48.far ?_ NB128_129.out _) | exact HI128.out)); (case side2 => repeat (first | (with_reducible first | exact HB.out | apply below_alloc | apply pw_below_drewN | apply below_drew1 | refine below_set ?_ (IsS48.ge HI128.out) | refine below_set ?_ GE129.out) | exact HB.out)); rintro e w15 ⟨rfl, hi, hb, hk⟩; have n0_ := Aside0.mk (KeepBut.blk hk (g' := gb129) (o := .cells #[.int .i64 x130000_1, .int .i64 x130001_1, .int .i64 x130002_1] 26 (0, 0)) (by (with_reducible repeat (first | refine blk_drewN ?_ _ | refine blk_drew ?_ | refine blk_alloc ?_ _)); exact BK129.out) NB129_128.out (by simp)); have n1_ := Aside0.mk (hb); have n2_ := Aside0.mk (hi); clear BK129; clear HB; clear HI128; have BK129 := n0_; have HB := n1_; have HI128 := n2_; clear n0_ n1_ n2_; (try clear hb); (try clear hb2); (try clear hk); (try clear hi)))
            go_meet
            case rel => exact ⟨_, ((t135 == 0)), (t136), (by first | rfl | (simp; done) | (simp [*]; done)), H', ⟨by have := HK1.out; first | omega | exact Nat.le_refl _⟩, ⟨by (with_reducible repeat (first | refine blk_drewN ?_ _ | refine blk_drew ?_ | refine blk_alloc ?_ _)); exact BK129.out⟩, ⟨by repeat (first | (with_reducible first | exact HI128.out | apply IsS48.alloc | apply IsS48.drewN | apply IsS48.drew | apply IsS48.set_1 | refine IsS48.far ?_ NB128_129.out _) | exact HI128.out)⟩, ⟨by repeat (first | (with_reducible first | exact HB.out | apply below_alloc | apply pw_below_drewN | apply below_drew1 | refine below_set ?_ (IsS48.ge HI128.out) | refine below_set ?_ GE129.out) | exact HB.out)⟩⟩
        case rest =>
          clear HC10
          try clear c1
          try clear p2
          try clear c5
          try clear p6
          try clear c7
          try clear c8
          try clear c11
          try clear c12
          try clear c13
          try clear c13b0
          try clear hcz6_0
          try clear hcz6_1
          try clear hcz6_2
          try clear hfz6_0
          try clear hfz6_1
          try clear hfz6_2
          try clear p2
          obtain ⟨kq, x7_9, x129001_9, rfl, HA, HJ9, BK129, HI128, HB⟩ := hcut
          cases kq with
          | zero => exact absurd HA.out (by simp [railplanlaw31_DetectorSafe.j1])
          | succ kj9 =>
            have H := HA.out
            clear HA
            simp only [railplanlaw31_DetectorSafe.j1] at H
            replace H := Option.bind_eq_some_iff.mp H
            obtain ⟨⟨t138, t139⟩, A160, H⟩ := H
            replace H : (if t138 = 0 then ((railplankeep_Source_Next.f t126 t139 9).bind fun bt140 => (railplanlaw31_DetectorSafe.j2 kj9 x5_1 (wrap64 (1 + t133)) x7_9 t126 bt140.2 x130000_1 x130001_1 x130002_1 0 x7_9 (wrap64 (bt140.1 - 2)) (wrap64 (1 + t133)))) else (if t138 = 1 then ((railplankeep_Source_Next.f t126 t139 9).bind fun bt142 => (railplanlaw31_DetectorSafe.j2 kj9 x5_1 (wrap64 (1 + t133)) x7_9 t126 bt142.2 x130000_1 x130001_1 x130002_1 0 x7_9 (wrap64 (1 + t133)) (wrap64 (bt142.1 - 2)))) else (railplanlaw31_DetectorSafe.j2 kj9 x5_1 (wrap64 (1 + t133)) x7_9 t126 t139 x130000_1 x130001_1 x130002_1 0 x7_9 (wrap64 (1 + t133)) (wrap64 (1 + t133))))) = some r := H
            have A16 := Aside0.mk A160
            clear A160
            have HC17 := Aside0.mk H
            clear H
            go_upto_block 2 with (first | ((with_reducible refine gate_dst (N := 8) rfl ?_); refine box_event ?hg (N := 8) ?hd (cs := #[.int .i64 0, .bool false, .int .i64 0, .int .i64 0]) (t := 31) ?hr ?_; (case hd => rfl); (case hg => rfl); (case hr => first | (go_simp; done) | (go_simp; rfl)); intro gb137 hg w18 hbox hb; have n0_ := Aside0.mk (blk_below (g := gb129) (o := .cells #[.int .i64 x130000_1, .int .i64 x130001_1, .int .i64 x130002_1] 26 (0, 0)) (by (with_reducible repeat (first | refine blk_drewN ?_ _ | refine blk_drew ?_ | refine blk_alloc ?_ _)); exact BK129.out) hb); have n1_ := Aside0.mk (IsS48.below (by repeat (first | (with_reducible first | exact HI128.out | apply IsS48.alloc | apply IsS48.drewN | apply IsS48.drew | apply IsS48.set_1 | refine IsS48.far ?_ NB128_129.out _) | exact HI128.out)) hb); have n2_ := Aside0.mk (below_step (by repeat (first | (with_reducible first | exact HB.out | apply below_alloc | apply pw_below_drewN | apply below_drew1 | refine below_set ?_ (IsS48.ge HI128.out) | refine below_set ?_ GE129.out) | exact HB.out)) hb); have n3_ := Aside0.mk (hbox); have n4_ := Aside0.mk ((by rw [hg]; exact (below_size (by repeat (first | (with_reducible first | exact HB.out | apply below_alloc | apply pw_below_drewN | apply below_drew1 | refine below_set ?_ (IsS48.ge HI128.out) | refine below_set ?_ GE129.out) | exact HB.out))) : w.heap.size ≤ gb137)); have n5_ := Aside0.mk ((by rw [hg]; exact (below_size (by repeat (first | (with_reducible first | exact HB.out | apply below_alloc | apply pw_below_drewN | apply below_drew1 | refine below_set ?_ (IsS48.ge HI128.out) | refine below_set ?_ GE129.out) | exact HB.out))) : w.heap.size ≤ gb137)); have n6_ := Aside0.mk ((by rw [hg]; exact Nat.ne_of_lt (blk_lt (g := gb129) (o := .cells #[.int .i64 x130000_1, .int .i64 x130001_1, .int .i64 x130002_1] 26 (0, 0)) (by (with_reducible repeat (first | refine blk_drewN ?_ _ | refine blk_drew ?_ | refine blk_alloc ?_ _)); exact BK129.out)) : gb129 ≠ gb137)); have n7_ := Aside0.mk ((by rw [hg]; exact Nat.ne_of_gt (blk_lt (g := gb129) (o := .cells #[.int .i64 x130000_1, .int .i64 x130001_1, .int .i64 x130002_1] 26 (0, 0)) (by (with_reducible repeat (first | refine blk_drewN ?_ _ | refine blk_drew ?_ | refine blk_alloc ?_ _)); exact BK129.out)) : gb137 ≠ gb129)); have n8_ := Aside0.mk ((by rw [hg]; exact Nat.ne_of_lt (IsS48.lt (show IsS48 w _ g128 t126 x129001_9 from by repeat (first | (with_reducible first | exact HI128.out | apply IsS48.alloc | apply IsS48.drewN | apply IsS48.drew | apply IsS48.set_1 | refine IsS48.far ?_ NB128_129.out _) | exact HI128.out))) : g128 ≠ gb137)); have n9_ := Aside0.mk ((by rw [hg]; exact Nat.ne_of_gt (IsS48.lt (show IsS48 w _ g128 t126 x129001_9 from by repeat (first | (with_reducible first | exact HI128.out | apply IsS48.alloc | apply IsS48.drewN | apply IsS48.drew | apply IsS48.set_1 | refine IsS48.far ?_ NB128_129.out _) | exact HI128.out))) : gb137 ≠ g128)); clear BK129; clear HI128; clear HB; have BK129 := n0_; have HI128 := n1_; have HB := n2_; have BK137 := n3_; have GW137 := n4_; have GE137 := n5_; have NB129_137 := n6_; have NB137_129 := n7_; have NB128_137 := n8_; have NB137_128 := n9_; clear n0_ n1_ n2_ n3_ n4_ n5_ n6_ n7_ n8_ n9_; clear hb hbox hg; have hnb19 := NB137_129.out; have hnc19 := NB129_137.out; have hnb20 := NB137_128.out; have hnc20 := NB128_137.out; have hcz21_0 : w18.cell? ⟨gb137, 0, none⟩ = some (.int .i64 0) := (blk_cell BK137.out 0).trans rfl; have hcz21_1 : w18.cell? ⟨gb137, 1, none⟩ = some (.bool false) := (blk_cell BK137.out 1).trans rfl; have hcz21_2 : w18.cell? ⟨gb137, 2, none⟩ = some (.int .i64 0) := (blk_cell BK137.out 2).trans rfl; have hcz21_3 : w18.cell? ⟨gb137, 3, none⟩ = some (.int .i64 0) := (blk_cell BK137.out 3).trans rfl; have hfz21_0 := blk_frozen BK137.out 0; have hfz21_1 := blk_frozen BK137.out 1; have hfz21_2 := blk_frozen BK137.out 2; have hfz21_3 := blk_frozen BK137.out 3) | ((with_reducible refine gate_callee (f := 13) rfl ?_); refine goesL_ (some 30) rfl rfl Try.func13 (by kernel_rfl) rfl #[.pointer (some ⟨g128, 0, none⟩), .int .i64 8] rfl (by (try simp only [List.map_toArray, List.map_cons, List.map_nil]); first | done | rfl | (simp only [List.length_drop, List.length_take]; rfl)) ?_; (with_reducible refine (railplankeep_Source_Next.calls g128 t126 x129001_9 8 t138 t139 w _ ?side1 ?side2 A16.out).mono ?_); (case side1 => repeat (first | (with_reducible first | exact HI128.out | apply IsS48.alloc | apply IsS48.drewN | apply IsS48.drew | apply IsS48.set_1 | refine IsS48.far ?_ NB128_129.out _ | refine IsS48.far ?_ NB128_137.out _) | exact HI128.out)); (case side2 => repeat (first | (with_reducible first | exact HB.out | apply below_alloc | apply pw_below_drewN | apply below_drew1 | refine below_set ?_ (IsS48.ge HI128.out) | refine below_set ?_ GE129.out | refine below_set ?_ GE137.out) | exact HB.out)); rintro e w22 ⟨rfl, hi, hb, hk⟩; refine ⟨_, rfl, ?_⟩; have n0_ := Aside0.mk (KeepBut.blk hk (g' := gb129) (o := .cells #[.int .i64 x130000_1, .int .i64 x130001_1, .int .i64 x130002_1] 26 (0, 0)) (by (with_reducible repeat (first | refine blk_drewN ?_ _ | refine blk_drew ?_ | refine blk_alloc ?_ _)); refine blk_far ?_ NB129_137.out _; (with_reducible repeat (first | refine blk_drewN ?_ _ | refine blk_drew ?_ | refine blk_alloc ?_ _)); refine blk_far ?_ NB129_137.out _; (with_reducible repeat (first | refine blk_drewN ?_ _ | refine blk_drew ?_ | refine blk_alloc ?_ _)); refine blk_far ?_ NB129_137.out _; (with_reducible repeat (first | refine blk_drewN ?_ _ | refine blk_drew ?_ | refine blk_alloc ?_ _)); refine blk_far ?_ NB129_137.out _; (with_reducible repeat (first | refine blk_drewN ?_ _ | refine blk_drew ?_ | refine blk_alloc ?_ _)); exact BK129.out) NB129_128.out (by simp)); have n1_ := Aside0.mk (KeepBut.blk hk (g' := gb137) (o := .cells #[.int .i64 0, .bool x7_9, .int .i64 (wrap64 (1 + t133)), .int .i64 (wrap64 (1 + t133))] 31 (0, 0)) (by (with_reducible repeat (first | refine blk_drewN ?_ _ | refine blk_drew ?_ | refine blk_alloc ?_ _)); refine blk_put (cs := #[.int .i64 0, .bool x7_9, .int .i64 (wrap64 (1 + t133)), .int .i64 0]) ?_ 3 _ rfl; (with_reducible repeat (first | refine blk_drewN ?_ _ | refine blk_drew ?_ | refine blk_alloc ?_ _)); refine blk_put (cs := #[.int .i64 0, .bool x7_9, .int .i64 0, .int .i64 0]) ?_ 2 _ rfl; (with_reducible repeat (first | refine blk_drewN ?_ _ | refine blk_drew ?_ | refine blk_alloc ?_ _)); refine blk_put (cs := #[.int .i64 0, .bool false, .int .i64 0, .int .i64 0]) ?_ 1 _ rfl; (with_reducible repeat (first | refine blk_drewN ?_ _ | refine blk_drew ?_ | refine blk_alloc ?_ _)); refine blk_put (cs := #[.int .i64 0, .bool false, .int .i64 0, .int .i64 0]) ?_ 0 _ rfl; (with_reducible repeat (first | refine blk_drewN ?_ _ | refine blk_drew ?_ | refine blk_alloc ?_ _)); exact BK137.out) NB137_128.out (by simp)); have n2_ := Aside0.mk (hb); have n3_ := Aside0.mk (hi); clear BK129; clear BK137; clear HB; clear HI128; have BK129 := n0_; have BK137 := n1_; have HB := n2_; have HI128 := n3_; clear n0_ n1_ n2_ n3_; (try clear hb); (try clear hb2); (try clear hk); (try clear hi)))
            (try simp only [Act.put, List.setIfInBounds_toArray, List.set_cons_zero, List.set_cons_succ])
            go_cut [] (fun wc => ∃ (kq : Nat) (x129001_16 : Int) (x138002_16 : Int) (x138003_16 : Int), Aside0 (railplanlaw31_DetectorSafe.j2 kq x5_1 (wrap64 (1 + t133)) x7_9 t126 x129001_16 x130000_1 x130001_1 x130002_1 0 x7_9 x138002_16 x138003_16 = some r) ∧ Aside0 (kq ≤ kj9) ∧ Aside0 (wc.heap[gb129]? = some (.cells #[.int .i64 x130000_1, .int .i64 x130001_1, .int .i64 x130002_1] 26 (0, 0))) ∧ Aside0 (wc.heap[gb137]? = some (.cells #[.int .i64 0, .bool x7_9, .int .i64 x138002_16, .int .i64 x138003_16] 31 (0, 0))) ∧ Aside0 (IsS48 w wc g128 t126 x129001_16) ∧ Aside0 (Below w.heap.size w wc))
            case first =>
              have H := HC17.out
              clear HC17
              by_cases c23 : t138 = 0
              · rw [if_pos c23] at H
                have c23b0 : (t138 == 0) = true := beq_iff_eq.mpr c23
                have c23b1 : (t138 != 0) = false := bne_eq_false_iff_eq.mpr c23
                clear c23
                (first | rw [c23b0] | (simp only [i64_w, i32_w]; rw [c23b0]) | skip)
                replace H := Option.bind_eq_some_iff.mp H
                obtain ⟨⟨t140, t141⟩, A240, H⟩ := H
                replace H : (railplanlaw31_DetectorSafe.j2 kj9 x5_1 (wrap64 (1 + t133)) x7_9 t126 t141 x130000_1 x130001_1 x130002_1 0 x7_9 (wrap64 (t140 - 2)) (wrap64 (1 + t133))) = some r := H
                have A24 := Aside0.mk A240
                clear A240
                have H' := Aside0.mk H
                clear H
                go_wp2_with (first | ((with_reducible refine gate_callee (f := 13) rfl ?_); refine goesL_ (some 34) rfl rfl Try.func13 (by kernel_rfl) rfl #[.pointer (some ⟨g128, 0, none⟩), .int .i64 9] rfl (by (try simp only [List.map_toArray, List.map_cons, List.map_nil]); first | done | rfl | (simp only [List.length_drop, List.length_take]; rfl)) ?_; (with_reducible refine (railplankeep_Source_Next.calls g128 t126 t139 9 t140 t141 w _ ?side1 ?side2 A24.out).mono ?_); (case side1 => repeat (first | (with_reducible first | exact HI128.out | apply IsS48.alloc | apply IsS48.drewN | apply IsS48.drew | apply IsS48.set_1 | refine IsS48.far ?_ NB128_129.out _ | refine IsS48.far ?_ NB128_137.out _) | exact HI128.out)); (case side2 => repeat (first | (with_reducible first | exact HB.out | apply below_alloc | apply pw_below_drewN | apply below_drew1 | refine below_set ?_ (IsS48.ge HI128.out) | refine below_set ?_ GE129.out | refine below_set ?_ GE137.out) | exact HB.out)); rintro e w25 ⟨rfl, hi, hb, hk⟩; refine ⟨_, rfl, ?_⟩; have n0_ := Aside0.mk (KeepBut.blk hk (g' := gb129) (o := .cells #[.int .i64 x130000_1, .int .i64 x130001_1, .int .i64 x130002_1] 26 (0, 0)) (by (with_reducible repeat (first | refine blk_drewN ?_ _ | refine blk_drew ?_ | refine blk_alloc ?_ _)); exact BK129.out) NB129_128.out (by simp)); have n1_ := Aside0.mk (KeepBut.blk hk (g' := gb137) (o := .cells #[.int .i64 0, .bool x7_9, .int .i64 (wrap64 (1 + t133)), .int .i64 (wrap64 (1 + t133))] 31 (0, 0)) (by (with_reducible repeat (first | refine blk_drewN ?_ _ | refine blk_drew ?_ | refine blk_alloc ?_ _)); exact BK137.out) NB137_128.out (by simp)); have n2_ := Aside0.mk (hb); have n3_ := Aside0.mk (hi); clear BK129; clear BK137; clear HB; clear HI128; have BK129 := n0_; have BK137 := n1_; have HB := n2_; have HI128 := n3_; clear n0_ n1_ n2_ n3_; (try clear hb); (try clear hb2); (try clear hk); (try clear hi); have hnb26 := NB137_129.out; have hnc26 := NB129_137.out; have hnb27 := NB137_128.out; have hnc27 := NB128_137.out; have hcz28_0 : w25.cell? ⟨gb137, 0, none⟩ = some (.int .i64 0) := (blk_cell BK137.out 0).trans rfl; have hcz28_1 : w25.cell? ⟨gb137, 1, none⟩ = some (.bool x7_9) := (blk_cell BK137.out 1).trans rfl; have hcz28_2 : w25.cell? ⟨gb137, 2, none⟩ = some (.int .i64 (wrap64 (1 + t133))) := (blk_cell BK137.out 2).trans rfl; have hcz28_3 : w25.cell? ⟨gb137, 3, none⟩ = some (.int .i64 (wrap64 (1 + t133))) := (blk_cell BK137.out 3).trans rfl; have hfz28_0 := blk_frozen BK137.out 0; have hfz28_1 := blk_frozen BK137.out 1; have hfz28_2 := blk_frozen BK137.out 2; have hfz28_3 := blk_frozen BK137.out 3))
                go_meet
                case rel => exact ⟨_, (t141), (wrap64 (t140 - 2)), ((wrap64 (1 + t133))), H', ⟨by have := HK1.out; have := HJ9.out; first | omega | exact Nat.le_refl _⟩, ⟨by (with_reducible repeat (first | refine blk_drewN ?_ _ | refine blk_drew ?_ | refine blk_alloc ?_ _)); refine blk_far ?_ NB129_137.out _; (with_reducible repeat (first | refine blk_drewN ?_ _ | refine blk_drew ?_ | refine blk_alloc ?_ _)); exact BK129.out⟩, ⟨by (with_reducible repeat (first | refine blk_drewN ?_ _ | refine blk_drew ?_ | refine blk_alloc ?_ _)); refine blk_put (cs := #[.int .i64 0, .bool x7_9, .int .i64 (wrap64 (1 + t133)), .int .i64 (wrap64 (1 + t133))]) ?_ 2 _ rfl; (with_reducible repeat (first | refine blk_drewN ?_ _ | refine blk_drew ?_ | refine blk_alloc ?_ _)); exact BK137.out⟩, ⟨by repeat (first | (with_reducible first | exact HI128.out | apply IsS48.alloc | apply IsS48.drewN | apply IsS48.drew | apply IsS48.set_1 | refine IsS48.far ?_ NB128_129.out _ | refine IsS48.far ?_ NB128_137.out _) | exact HI128.out)⟩, ⟨by repeat (first | (with_reducible first | exact HB.out | apply below_alloc | apply pw_below_drewN | apply below_drew1 | refine below_set ?_ (IsS48.ge HI128.out) | refine below_set ?_ GE129.out | refine below_set ?_ GE137.out) | exact HB.out)⟩⟩
              · rw [if_neg c23] at H
                have c23b0 : (t138 == 0) = false := beq_eq_false_iff_ne.mpr c23
                have c23b1 : (t138 != 0) = true := bne_iff_ne.mpr c23
                (first | rw [c23b0] | (simp only [i64_w, i32_w]; rw [c23b0]) | skip)
                by_cases c29 : t138 = 1
                · rw [if_pos c29] at H
                  have c29b0 : (t138 == 1) = true := beq_iff_eq.mpr c29
                  have c29b1 : (t138 != 1) = false := bne_eq_false_iff_eq.mpr c29
                  clear c29
                  replace H := Option.bind_eq_some_iff.mp H
                  obtain ⟨⟨t142, t143⟩, A300, H⟩ := H
                  replace H : (railplanlaw31_DetectorSafe.j2 kj9 x5_1 (wrap64 (1 + t133)) x7_9 t126 t143 x130000_1 x130001_1 x130002_1 0 x7_9 (wrap64 (1 + t133)) (wrap64 (t142 - 2))) = some r := H
                  have A30 := Aside0.mk A300
                  clear A300
                  have H' := Aside0.mk H
                  clear H
                  go_wp2_with (first | ((with_reducible refine gate_callee (f := 13) rfl ?_); refine goesL_ (some 40) rfl rfl Try.func13 (by kernel_rfl) rfl #[.pointer (some ⟨g128, 0, none⟩), .int .i64 9] rfl (by (try simp only [List.map_toArray, List.map_cons, List.map_nil]); first | done | rfl | (simp only [List.length_drop, List.length_take]; rfl)) ?_; (with_reducible refine (railplankeep_Source_Next.calls g128 t126 t139 9 t142 t143 w _ ?side1 ?side2 A30.out).mono ?_); (case side1 => repeat (first | (with_reducible first | exact HI128.out | apply IsS48.alloc | apply IsS48.drewN | apply IsS48.drew | apply IsS48.set_1 | refine IsS48.far ?_ NB128_129.out _ | refine IsS48.far ?_ NB128_137.out _) | exact HI128.out)); (case side2 => repeat (first | (with_reducible first | exact HB.out | apply below_alloc | apply pw_below_drewN | apply below_drew1 | refine below_set ?_ (IsS48.ge HI128.out) | refine below_set ?_ GE129.out | refine below_set ?_ GE137.out) | exact HB.out)); rintro e w31 ⟨rfl, hi, hb, hk⟩; refine ⟨_, rfl, ?_⟩; have n0_ := Aside0.mk (KeepBut.blk hk (g' := gb129) (o := .cells #[.int .i64 x130000_1, .int .i64 x130001_1, .int .i64 x130002_1] 26 (0, 0)) (by (with_reducible repeat (first | refine blk_drewN ?_ _ | refine blk_drew ?_ | refine blk_alloc ?_ _)); exact BK129.out) NB129_128.out (by simp)); have n1_ := Aside0.mk (KeepBut.blk hk (g' := gb137) (o := .cells #[.int .i64 0, .bool x7_9, .int .i64 (wrap64 (1 + t133)), .int .i64 (wrap64 (1 + t133))] 31 (0, 0)) (by (with_reducible repeat (first | refine blk_drewN ?_ _ | refine blk_drew ?_ | refine blk_alloc ?_ _)); exact BK137.out) NB137_128.out (by simp)); have n2_ := Aside0.mk (hb); have n3_ := Aside0.mk (hi); clear BK129; clear BK137; clear HB; clear HI128; have BK129 := n0_; have BK137 := n1_; have HB := n2_; have HI128 := n3_; clear n0_ n1_ n2_ n3_; (try clear hb); (try clear hb2); (try clear hk); (try clear hi); have hnb32 := NB137_129.out; have hnc32 := NB129_137.out; have hnb33 := NB137_128.out; have hnc33 := NB128_137.out; have hcz34_0 : w31.cell? ⟨gb137, 0, none⟩ = some (.int .i64 0) := (blk_cell BK137.out 0).trans rfl; have hcz34_1 : w31.cell? ⟨gb137, 1, none⟩ = some (.bool x7_9) := (blk_cell BK137.out 1).trans rfl; have hcz34_2 : w31.cell? ⟨gb137, 2, none⟩ = some (.int .i64 (wrap64 (1 + t133))) := (blk_cell BK137.out 2).trans rfl; have hcz34_3 : w31.cell? ⟨gb137, 3, none⟩ = some (.int .i64 (wrap64 (1 + t133))) := (blk_cell BK137.out 3).trans rfl; have hfz34_0 := blk_frozen BK137.out 0; have hfz34_1 := blk_frozen BK137.out 1; have hfz34_2 := blk_frozen BK137.out 2; have hfz34_3 := blk_frozen BK137.out 3))
                  go_meet
                  case rel => exact ⟨_, (t143), ((wrap64 (1 + t133))), (wrap64 (t142 - 2)), H', ⟨by have := HK1.out; have := HJ9.out; first | omega | exact Nat.le_refl _⟩, ⟨by (with_reducible repeat (first | refine blk_drewN ?_ _ | refine blk_drew ?_ | refine blk_alloc ?_ _)); refine blk_far ?_ NB129_137.out _; (with_reducible repeat (first | refine blk_drewN ?_ _ | refine blk_drew ?_ | refine blk_alloc ?_ _)); exact BK129.out⟩, ⟨by (with_reducible repeat (first | refine blk_drewN ?_ _ | refine blk_drew ?_ | refine blk_alloc ?_ _)); refine blk_put (cs := #[.int .i64 0, .bool x7_9, .int .i64 (wrap64 (1 + t133)), .int .i64 (wrap64 (1 + t133))]) ?_ 3 _ rfl; (with_reducible repeat (first | refine blk_drewN ?_ _ | refine blk_drew ?_ | refine blk_alloc ?_ _)); exact BK137.out⟩, ⟨by repeat (first | (with_reducible first | exact HI128.out | apply IsS48.alloc | apply IsS48.drewN | apply IsS48.drew | apply IsS48.set_1 | refine IsS48.far ?_ NB128_129.out _ | refine IsS48.far ?_ NB128_137.out _) | exact HI128.out)⟩, ⟨by repeat (first | (with_reducible first | exact HB.out | apply below_alloc | apply pw_below_drewN | apply below_drew1 | refine below_set ?_ (IsS48.ge HI128.out) | refine below_set ?_ GE129.out | refine below_set ?_ GE137.out) | exact HB.out)⟩⟩
                · rw [if_neg c29] at H
                  have c29b0 : (t138 == 1) = false := beq_eq_false_iff_ne.mpr c29
                  have c29b1 : (t138 != 1) = true := bne_iff_ne.mpr c29
                  have H' := Aside0.mk H
                  clear H
                  go_wp2
                  go_meet
                  case rel => exact ⟨_, (t139), ((wrap64 (1 + t133))), ((wrap64 (1 + t133))), H', ⟨by have := HK1.out; have := HJ9.out; first | omega | exact Nat.le_refl _⟩, ⟨by (with_reducible repeat (first | refine blk_drewN ?_ _ | refine blk_drew ?_ | refine blk_alloc ?_ _)); exact BK129.out⟩, ⟨by (with_reducible repeat (first | refine blk_drewN ?_ _ | refine blk_drew ?_ | refine blk_alloc ?_ _)); exact BK137.out⟩, ⟨by repeat (first | (with_reducible first | exact HI128.out | apply IsS48.alloc | apply IsS48.drewN | apply IsS48.drew | apply IsS48.set_1 | refine IsS48.far ?_ NB128_129.out _ | refine IsS48.far ?_ NB128_137.out _) | exact HI128.out)⟩, ⟨by repeat (first | (with_reducible first | exact HB.out | apply below_alloc | apply pw_below_drewN | apply below_drew1 | refine below_set ?_ (IsS48.ge HI128.out) | refine below_set ?_ GE129.out | refine below_set ?_ GE137.out) | exact HB.out)⟩⟩
            case rest =>
              clear HC17
              try clear c1
              try clear c2
              try clear p2
              try clear c3
              try clear c5
              try clear p6
              try clear c7
              try clear c8
              try clear c11
              try clear c12
              try clear c13
              try clear c13b0
              try clear c19
              try clear c20
              try clear c23
              try clear c23b0
              try clear c23b1
              try clear c26
              try clear c27
              try clear c29
              try clear c29b0
              try clear c29b1
              try clear c32
              try clear c33
              try clear hcz21_0
              try clear hcz21_1
              try clear hcz21_2
              try clear hcz21_3
              try clear hcz28_0
              try clear hcz28_1
              try clear hcz28_2
              try clear hcz28_3
              try clear hcz34_0
              try clear hcz34_1
              try clear hcz34_2
              try clear hcz34_3
              try clear hcz6_0
              try clear hcz6_1
              try clear hcz6_2
              try clear hfz21_0
              try clear hfz21_1
              try clear hfz21_2
              try clear hfz21_3
              try clear hfz28_0
              try clear hfz28_1
              try clear hfz28_2
              try clear hfz28_3
              try clear hfz34_0
              try clear hfz34_1
              try clear hfz34_2
              try clear hfz34_3
              try clear hfz6_0
              try clear hfz6_1
              try clear hfz6_2
              try clear p2
              try clear p6
              obtain ⟨kq, x129001_16, x138002_16, x138003_16, HA, HJ16, BK129, BK137, HI128, HB⟩ := hcut
              cases kq with
              | zero => exact absurd HA.out (by simp [railplanlaw31_DetectorSafe.j2])
              | succ kj16 =>
                have H := HA.out
                clear HA
                simp only [railplanlaw31_DetectorSafe.j2] at H
                have HC35 := Aside0.mk H
                clear H
                go_upto_if 43 with (fail)
                go_cut [5] (fun v5 wc => ∃ (kq : Nat) (x5_34 : Int), v5 = .int .i64 x5_34 ∧ Aside0 (railplanlaw31_DetectorSafe.j3 kq x5_34 t126 x129001_16 x130000_1 x130001_1 x130002_1 0 x7_9 x138002_16 x138003_16 = some r) ∧ Aside0 (kq ≤ kj16) ∧ Aside0 (wc.heap[gb129]? = some (.cells #[.int .i64 x130000_1, .int .i64 x130001_1, .int .i64 x130002_1] 26 (0, 0))) ∧ Aside0 (wc.heap[gb137]? = some (.cells #[.int .i64 0, .bool x7_9, .int .i64 x138002_16, .int .i64 x138003_16] 31 (0, 0))) ∧ Aside0 (IsS48 w wc g128 t126 x129001_16) ∧ Aside0 (Below w.heap.size w wc))
                case first =>
                  have H := HC35.out
                  clear HC35
                  by_cases c36 : x7_9 = true
                  · subst c36
                    have H1 : (railplanlaw31_DetectorSafe.j3 kj16 (wrap64 (x5_1 + (wrap64 (1 + t133)))) t126 x129001_16 x130000_1 x130001_1 x130002_1 0 true x138002_16 x138003_16) = some r := by rw [if_pos rfl] at H; exact H
                    clear H
                    have H := H1
                    clear H1
                    have H' := Aside0.mk H
                    clear H
                    go_wp2
                    go_meet
                    case rel => exact ⟨_, (wrap64 (x5_1 + (wrap64 (1 + t133)))), (by first | rfl | (simp; done) | (simp [*]; done)), H', ⟨by have := HK1.out; have := HJ9.out; have := HJ16.out; first | omega | exact Nat.le_refl _⟩, ⟨by (with_reducible repeat (first | refine blk_drewN ?_ _ | refine blk_drew ?_ | refine blk_alloc ?_ _)); exact BK129.out⟩, ⟨by (with_reducible repeat (first | refine blk_drewN ?_ _ | refine blk_drew ?_ | refine blk_alloc ?_ _)); exact BK137.out⟩, ⟨by repeat (first | (with_reducible first | exact HI128.out | apply IsS48.alloc | apply IsS48.drewN | apply IsS48.drew | apply IsS48.set_1 | refine IsS48.far ?_ NB128_129.out _ | refine IsS48.far ?_ NB128_137.out _) | exact HI128.out)⟩, ⟨by repeat (first | (with_reducible first | exact HB.out | apply below_alloc | apply pw_below_drewN | apply below_drew1 | refine below_set ?_ (IsS48.ge HI128.out) | refine below_set ?_ GE129.out | refine below_set ?_ GE137.out) | exact HB.out)⟩⟩
                  · replace c36 := Bool.eq_false_iff.mpr c36
                    subst c36
                    have H1 : (railplanlaw31_DetectorSafe.j3 kj16 (wrap64 (x5_1 - (wrap64 (1 + t133)))) t126 x129001_16 x130000_1 x130001_1 x130002_1 0 false x138002_16 x138003_16) = some r := by rw [if_neg (show ¬ (false = true) by decide)] at H; exact H
                    clear H
                    have H := H1
                    clear H1
                    have H' := Aside0.mk H
                    clear H
                    go_wp2
                    go_meet
                    case rel => exact ⟨_, (wrap64 (x5_1 - (wrap64 (1 + t133)))), (by first | rfl | (simp; done) | (simp [*]; done)), H', ⟨by have := HK1.out; have := HJ9.out; have := HJ16.out; first | omega | exact Nat.le_refl _⟩, ⟨by (with_reducible repeat (first | refine blk_drewN ?_ _ | refine blk_drew ?_ | refine blk_alloc ?_ _)); exact BK129.out⟩, ⟨by (with_reducible repeat (first | refine blk_drewN ?_ _ | refine blk_drew ?_ | refine blk_alloc ?_ _)); exact BK137.out⟩, ⟨by repeat (first | (with_reducible first | exact HI128.out | apply IsS48.alloc | apply IsS48.drewN | apply IsS48.drew | apply IsS48.set_1 | refine IsS48.far ?_ NB128_129.out _ | refine IsS48.far ?_ NB128_137.out _) | exact HI128.out)⟩, ⟨by repeat (first | (with_reducible first | exact HB.out | apply below_alloc | apply pw_below_drewN | apply below_drew1 | refine below_set ?_ (IsS48.ge HI128.out) | refine below_set ?_ GE129.out | refine below_set ?_ GE137.out) | exact HB.out)⟩⟩
                case rest =>
                  clear HC35
                  try clear c1
                  try clear c2
                  try clear p2
                  try clear c3
                  try clear c5
                  try clear p6
                  try clear c7
                  try clear c8
                  try clear c11
                  try clear c12
                  try clear c13
                  try clear c13b0
                  try clear c19
                  try clear c20
                  try clear c23
                  try clear c23b0
                  try clear c23b1
                  try clear c26
                  try clear c27
                  try clear c29
                  try clear c29b0
                  try clear c29b1
                  try clear c32
                  try clear c33
                  try clear c36
                  try clear hcz21_0
                  try clear hcz21_1
                  try clear hcz21_2
                  try clear hcz21_3
                  try clear hcz28_0
                  try clear hcz28_1
                  try clear hcz28_2
                  try clear hcz28_3
                  try clear hcz34_0
                  try clear hcz34_1
                  try clear hcz34_2
                  try clear hcz34_3
                  try clear hcz6_0
                  try clear hcz6_1
                  try clear hcz6_2
                  try clear hfz21_0
                  try clear hfz21_1
                  try clear hfz21_2
                  try clear hfz21_3
                  try clear hfz28_0
                  try clear hfz28_1
                  try clear hfz28_2
                  try clear hfz28_3
                  try clear hfz34_0
                  try clear hfz34_1
                  try clear hfz34_2
                  try clear hfz34_3
                  try clear hfz6_0
                  try clear hfz6_1
                  try clear hfz6_2
                  try clear p2
                  try clear p6
                  obtain ⟨kq, x5_34, rfl, HA, HJ34, BK129, BK137, HI128, HB⟩ := hcut
                  cases kq with
                  | zero => exact absurd HA.out (by simp [railplanlaw31_DetectorSafe.j3])
                  | succ kj34 =>
                    have H := HA.out
                    clear HA
                    simp only [railplanlaw31_DetectorSafe.j3] at H
                    replace H := Option.bind_eq_some_iff.mp H
                    obtain ⟨⟨t144, t145, t146⟩, A370, H⟩ := H
                    replace H : (if x5_34 = 0 then ((railplankeep_Source_Next.f t126 x129001_16 3).bind fun bt147 => (railplanlaw31_DetectorSafe.j4 kj34 x5_34 (bt147.1 == 0) t126 bt147.2 t144 t145 t146)) else (railplanlaw31_DetectorSafe.j4 kj34 x5_34 false t126 x129001_16 t144 t145 t146)) = some r := H
                    have A37 := Aside0.mk A370
                    clear A370
                    have HC38 := Aside0.mk H
                    clear H
                    have hnb39 := NB129_137.out
                    have hnc39 := NB137_129.out
                    have hnb40 := NB129_128.out
                    have hnc40 := NB128_129.out
                    have hcz41_0 : wc.cell? ⟨gb129, 0, none⟩ = some (.int .i64 x130000_1) := (blk_cell BK129.out 0).trans rfl
                    have hcz41_1 : wc.cell? ⟨gb129, 1, none⟩ = some (.int .i64 x130001_1) := (blk_cell BK129.out 1).trans rfl
                    have hcz41_2 : wc.cell? ⟨gb129, 2, none⟩ = some (.int .i64 x130002_1) := (blk_cell BK129.out 2).trans rfl
                    have hfz41_0 := blk_frozen BK129.out 0
                    have hfz41_1 := blk_frozen BK129.out 1
                    have hfz41_2 := blk_frozen BK129.out 2
                    have hnb42 := NB137_128.out
                    have hnc42 := NB128_137.out
                    have hcz43_0 : wc.cell? ⟨gb137, 0, none⟩ = some (.int .i64 0) := (blk_cell BK137.out 0).trans rfl
                    have hcz43_1 : wc.cell? ⟨gb137, 1, none⟩ = some (.bool x7_9) := (blk_cell BK137.out 1).trans rfl
                    have hcz43_2 : wc.cell? ⟨gb137, 2, none⟩ = some (.int .i64 x138002_16) := (blk_cell BK137.out 2).trans rfl
                    have hcz43_3 : wc.cell? ⟨gb137, 3, none⟩ = some (.int .i64 x138003_16) := (blk_cell BK137.out 3).trans rfl
                    have hfz43_0 := blk_frozen BK137.out 0
                    have hfz43_1 := blk_frozen BK137.out 1
                    have hfz43_2 := blk_frozen BK137.out 2
                    have hfz43_3 := blk_frozen BK137.out 3
                    go_upto_region 17 with (first | ((with_reducible refine gate_callee (f := 14) rfl ?_); refine goesL_ (some 52) rfl rfl Try.func14 (by kernel_rfl) rfl #[.agg #[.int .i64 x130000_1, .int .i64 x130001_1, .int .i64 x130002_1], .agg #[.int .i64 0, .bool x7_9, .int .i64 x138002_16, .int .i64 x138003_16]] rfl (by (try simp only [List.map_toArray, List.map_cons, List.map_nil]); first | done | rfl | (simp only [List.length_drop, List.length_take]; rfl)) ?_; (with_reducible refine (detector_Feed.calls kj34 x130000_1 x130001_1 x130002_1 0 x7_9 x138002_16 x138003_16 t144 t145 t146 _ A37.out).mono ?_); rintro e w44 ⟨rfl, hb⟩; refine ⟨_, rfl, ?_⟩; have n0_ := Aside0.mk (blk_below (g := gb129) (o := .cells #[.int .i64 x130000_1, .int .i64 x130001_1, .int .i64 x130002_1] 26 (0, 0)) (by (with_reducible repeat (first | refine blk_drewN ?_ _ | refine blk_drew ?_ | refine blk_alloc ?_ _)); exact BK129.out) hb); have n1_ := Aside0.mk (blk_below (g := gb137) (o := .cells #[.int .i64 0, .bool x7_9, .int .i64 x138002_16, .int .i64 x138003_16] 31 (0, 0)) (by (with_reducible repeat (first | refine blk_drewN ?_ _ | refine blk_drew ?_ | refine blk_alloc ?_ _)); exact BK137.out) hb); have n2_ := Aside0.mk (IsS48.below (by repeat (first | (with_reducible first | exact HI128.out | apply IsS48.alloc | apply IsS48.drewN | apply IsS48.drew | apply IsS48.set_1 | refine IsS48.far ?_ NB128_129.out _ | refine IsS48.far ?_ NB128_137.out _) | exact HI128.out)) hb); have n3_ := Aside0.mk (below_step (by repeat (first | (with_reducible first | exact HB.out | apply below_alloc | apply pw_below_drewN | apply below_drew1 | refine below_set ?_ (IsS48.ge HI128.out) | refine below_set ?_ GE129.out | refine below_set ?_ GE137.out) | exact HB.out)) hb); clear BK129; clear BK137; clear HI128; clear HB; have BK129 := n0_; have BK137 := n1_; have HI128 := n2_; have HB := n3_; clear n0_ n1_ n2_ n3_; (try clear hb); (try clear hb2); (try clear hk); (try clear hi); have hcz45_0 : w44.cell? ⟨gb129, 0, none⟩ = some (.int .i64 x130000_1) := (blk_cell BK129.out 0).trans rfl; have hcz45_1 : w44.cell? ⟨gb129, 1, none⟩ = some (.int .i64 x130001_1) := (blk_cell BK129.out 1).trans rfl; have hcz45_2 : w44.cell? ⟨gb129, 2, none⟩ = some (.int .i64 x130002_1) := (blk_cell BK129.out 2).trans rfl; have hfz45_0 := blk_frozen BK129.out 0; have hfz45_1 := blk_frozen BK129.out 1; have hfz45_2 := blk_frozen BK129.out 2))
                    (try simp only [Act.put, List.setIfInBounds_toArray, List.set_cons_zero, List.set_cons_succ])
                    go_cut [59] (fun v59 wc => ∃ (kq : Nat) (x59_37 : Bool) (x129001_37 : Int), v59 = .bool x59_37 ∧ Aside0 (railplanlaw31_DetectorSafe.j4 kq x5_34 x59_37 t126 x129001_37 t144 t145 t146 = some r) ∧ Aside0 (kq ≤ kj34) ∧ Aside0 (wc.heap[gb129]? = some (.cells #[.int .i64 t144, .int .i64 t145, .int .i64 t146] 26 (0, 0))) ∧ Aside0 (wc.heap[gb137]? = some (.cells #[.int .i64 0, .bool x7_9, .int .i64 x138002_16, .int .i64 x138003_16] 31 (0, 0))) ∧ Aside0 (IsS48 w wc g128 t126 x129001_37) ∧ Aside0 (Below w.heap.size w wc))
                    case first =>
                      have H := HC38.out
                      clear HC38
                      by_cases c46 : x5_34 = 0
                      · rw [if_pos c46] at H
                        have c46b0 : (x5_34 == 0) = true := beq_iff_eq.mpr c46
                        have c46b1 : (x5_34 != 0) = false := bne_eq_false_iff_eq.mpr c46
                        clear c46
                        (first | rw [c46b0] | (simp only [i64_w, i32_w]; rw [c46b0]) | skip)
                        replace H := Option.bind_eq_some_iff.mp H
                        obtain ⟨⟨t147, t148⟩, A470, H⟩ := H
                        replace H : (railplanlaw31_DetectorSafe.j4 kj34 x5_34 (t147 == 0) t126 t148 t144 t145 t146) = some r := H
                        have A47 := Aside0.mk A470
                        clear A470
                        have H' := Aside0.mk H
                        clear H
                        go_wp2_with (first | (go_at_call 13; (with_reducible refine (railplankeep_Source_Next.calls g128 t126 x129001_16 3 t147 t148 w _ ?side1 ?side2 A47.out).mono ?_); (case side1 => repeat (first | (with_reducible first | exact HI128.out | apply IsS48.alloc | apply IsS48.drewN | apply IsS48.drew | apply IsS48.set_1 | refine IsS48.far ?_ NB128_129.out _ | refine IsS48.far ?_ NB128_137.out _) | exact HI128.out)); (case side2 => repeat (first | (with_reducible first | exact HB.out | apply below_alloc | apply pw_below_drewN | apply below_drew1 | refine below_set ?_ (IsS48.ge HI128.out) | refine below_set ?_ GE129.out | refine below_set ?_ GE137.out) | exact HB.out)); rintro e w48 ⟨rfl, hi, hb, hk⟩; have n0_ := Aside0.mk (KeepBut.blk hk (g' := gb129) (o := .cells #[.int .i64 t144, .int .i64 t145, .int .i64 t146] 26 (0, 0)) (by (with_reducible repeat (first | refine blk_drewN ?_ _ | refine blk_drew ?_ | refine blk_alloc ?_ _)); refine blk_put (cs := #[.int .i64 t144, .int .i64 t145, .int .i64 x130002_1]) ?_ 2 _ rfl; (with_reducible repeat (first | refine blk_drewN ?_ _ | refine blk_drew ?_ | refine blk_alloc ?_ _)); refine blk_put (cs := #[.int .i64 t144, .int .i64 x130001_1, .int .i64 x130002_1]) ?_ 1 _ rfl; (with_reducible repeat (first | refine blk_drewN ?_ _ | refine blk_drew ?_ | refine blk_alloc ?_ _)); refine blk_put (cs := #[.int .i64 x130000_1, .int .i64 x130001_1, .int .i64 x130002_1]) ?_ 0 _ rfl; (with_reducible repeat (first | refine blk_drewN ?_ _ | refine blk_drew ?_ | refine blk_alloc ?_ _)); exact BK129.out) NB129_128.out (by simp)); have n1_ := Aside0.mk (KeepBut.blk hk (g' := gb137) (o := .cells #[.int .i64 0, .bool x7_9, .int .i64 x138002_16, .int .i64 x138003_16] 31 (0, 0)) (by (with_reducible repeat (first | refine blk_drewN ?_ _ | refine blk_drew ?_ | refine blk_alloc ?_ _)); refine blk_far ?_ NB137_129.out _; (with_reducible repeat (first | refine blk_drewN ?_ _ | refine blk_drew ?_ | refine blk_alloc ?_ _)); refine blk_far ?_ NB137_129.out _; (with_reducible repeat (first | refine blk_drewN ?_ _ | refine blk_drew ?_ | refine blk_alloc ?_ _)); refine blk_far ?_ NB137_129.out _; (with_reducible repeat (first | refine blk_drewN ?_ _ | refine blk_drew ?_ | refine blk_alloc ?_ _)); exact BK137.out) NB137_128.out (by simp)); have n2_ := Aside0.mk (hb); have n3_ := Aside0.mk (hi); clear BK129; clear BK137; clear HB; clear HI128; have BK129 := n0_; have BK137 := n1_; have HB := n2_; have HI128 := n3_; clear n0_ n1_ n2_ n3_; (try clear hb); (try clear hb2); (try clear hk); (try clear hi)))
                        go_meet
                        case rel => exact ⟨_, ((t147 == 0)), (t148), (by first | rfl | (simp; done) | (simp [*]; done)), H', ⟨by have := HK1.out; have := HJ9.out; have := HJ16.out; have := HJ34.out; first | omega | exact Nat.le_refl _⟩, ⟨by (with_reducible repeat (first | refine blk_drewN ?_ _ | refine blk_drew ?_ | refine blk_alloc ?_ _)); exact BK129.out⟩, ⟨by (with_reducible repeat (first | refine blk_drewN ?_ _ | refine blk_drew ?_ | refine blk_alloc ?_ _)); exact BK137.out⟩, ⟨by repeat (first | (with_reducible first | exact HI128.out | apply IsS48.alloc | apply IsS48.drewN | apply IsS48.drew | apply IsS48.set_1 | refine IsS48.far ?_ NB128_129.out _ | refine IsS48.far ?_ NB128_137.out _) | exact HI128.out)⟩, ⟨by repeat (first | (with_reducible first | exact HB.out | apply below_alloc | apply pw_below_drewN | apply below_drew1 | refine below_set ?_ (IsS48.ge HI128.out) | refine below_set ?_ GE129.out | refine below_set ?_ GE137.out) | exact HB.out)⟩⟩
                      · rw [if_neg c46] at H
                        have c46b0 : (x5_34 == 0) = false := beq_eq_false_iff_ne.mpr c46
                        have c46b1 : (x5_34 != 0) = true := bne_iff_ne.mpr c46
                        (first | rw [c46b0] | (simp only [i64_w, i32_w]; rw [c46b0]) | skip)
                        have H' := Aside0.mk H
                        clear H
                        go_wp2
                        go_meet
                        case rel => exact ⟨_, (false), (x129001_16), (by first | rfl | (simp; done) | (simp [*]; done)), H', ⟨by have := HK1.out; have := HJ9.out; have := HJ16.out; have := HJ34.out; first | omega | exact Nat.le_refl _⟩, ⟨by (with_reducible repeat (first | refine blk_drewN ?_ _ | refine blk_drew ?_ | refine blk_alloc ?_ _)); refine blk_put (cs := #[.int .i64 t144, .int .i64 t145, .int .i64 x130002_1]) ?_ 2 _ rfl; (with_reducible repeat (first | refine blk_drewN ?_ _ | refine blk_drew ?_ | refine blk_alloc ?_ _)); refine blk_put (cs := #[.int .i64 t144, .int .i64 x130001_1, .int .i64 x130002_1]) ?_ 1 _ rfl; (with_reducible repeat (first | refine blk_drewN ?_ _ | refine blk_drew ?_ | refine blk_alloc ?_ _)); refine blk_put (cs := #[.int .i64 x130000_1, .int .i64 x130001_1, .int .i64 x130002_1]) ?_ 0 _ rfl; (with_reducible repeat (first | refine blk_drewN ?_ _ | refine blk_drew ?_ | refine blk_alloc ?_ _)); exact BK129.out⟩, ⟨by (with_reducible repeat (first | refine blk_drewN ?_ _ | refine blk_drew ?_ | refine blk_alloc ?_ _)); refine blk_far ?_ NB137_129.out _; (with_reducible repeat (first | refine blk_drewN ?_ _ | refine blk_drew ?_ | refine blk_alloc ?_ _)); refine blk_far ?_ NB137_129.out _; (with_reducible repeat (first | refine blk_drewN ?_ _ | refine blk_drew ?_ | refine blk_alloc ?_ _)); refine blk_far ?_ NB137_129.out _; (with_reducible repeat (first | refine blk_drewN ?_ _ | refine blk_drew ?_ | refine blk_alloc ?_ _)); exact BK137.out⟩, ⟨by repeat (first | (with_reducible first | exact HI128.out | apply IsS48.alloc | apply IsS48.drewN | apply IsS48.drew | apply IsS48.set_1 | refine IsS48.far ?_ NB128_129.out _ | refine IsS48.far ?_ NB128_137.out _) | exact HI128.out)⟩, ⟨by repeat (first | (with_reducible first | exact HB.out | apply below_alloc | apply pw_below_drewN | apply below_drew1 | refine below_set ?_ (IsS48.ge HI128.out) | refine below_set ?_ GE129.out | refine below_set ?_ GE137.out) | exact HB.out)⟩⟩
                    case rest =>
                      clear HC38
                      try clear c1
                      try clear c2
                      try clear p2
                      try clear c3
                      try clear c4
                      try clear c5
                      try clear p6
                      try clear c7
                      try clear c8
                      try clear c11
                      try clear c12
                      try clear c13
                      try clear c13b0
                      try clear c14
                      try clear c19
                      try clear c20
                      try clear c23
                      try clear c23b0
                      try clear c23b1
                      try clear c26
                      try clear c27
                      try clear c29
                      try clear c29b0
                      try clear c29b1
                      try clear c32
                      try clear c33
                      try clear c36
                      try clear c39
                      try clear c40
                      try clear c42
                      try clear c46
                      try clear c46b0
                      try clear c46b1
                      try clear hcz21_0
                      try clear hcz21_1
                      try clear hcz21_2
                      try clear hcz21_3
                      try clear hcz28_0
                      try clear hcz28_1
                      try clear hcz28_2
                      try clear hcz28_3
                      try clear hcz34_0
                      try clear hcz34_1
                      try clear hcz34_2
                      try clear hcz34_3
                      try clear hcz41_0
                      try clear hcz41_1
                      try clear hcz41_2
                      try clear hcz43_0
                      try clear hcz43_1
                      try clear hcz43_2
                      try clear hcz43_3
                      try clear hcz45_0
                      try clear hcz45_1
                      try clear hcz45_2
                      try clear hcz6_0
                      try clear hcz6_1
                      try clear hcz6_2
                      try clear hfz21_0
                      try clear hfz21_1
                      try clear hfz21_2
                      try clear hfz21_3
                      try clear hfz28_0
                      try clear hfz28_1
                      try clear hfz28_2
                      try clear hfz28_3
                      try clear hfz34_0
                      try clear hfz34_1
                      try clear hfz34_2
                      try clear hfz34_3
                      try clear hfz41_0
                      try clear hfz41_1
                      try clear hfz41_2
                      try clear hfz43_0
                      try clear hfz43_1
                      try clear hfz43_2
                      try clear hfz43_3
                      try clear hfz45_0
                      try clear hfz45_1
                      try clear hfz45_2
                      try clear hfz6_0
                      try clear hfz6_1
                      try clear hfz6_2
                      try clear p2
                      try clear p6
                      obtain ⟨kq, x59_37, x129001_37, rfl, HA, HJ37, BK129, BK137, HI128, HB⟩ := hcut
                      cases kq with
                      | zero => exact absurd HA.out (by simp [railplanlaw31_DetectorSafe.j4])
                      | succ kj37 =>
                        have H := HA.out
                        clear HA
                        simp only [railplanlaw31_DetectorSafe.j4] at H
                        by_cases c49 : x59_37 = true
                        · subst c49
                          have H1 : ((detector_Reset.f t144 t145 t146).bind fun bt149 => ((detector_Report.f kj37 bt149.1 bt149.2.1 bt149.2.2).bind fun t152 => (if t152 = 0 then (if x5_34 = 0 then (railplanlaw31_DetectorSafe.l0 kj37 x5_34 t126 x129001_37 bt149.1 bt149.2.1 bt149.2.2) else (some false)) else (railplanlaw31_DetectorSafe.l0 kj37 x5_34 t126 x129001_37 bt149.1 bt149.2.1 bt149.2.2)))) = some r := by rw [if_pos rfl] at H; exact H
                          clear H
                          have H := H1
                          clear H1
                          replace H := Option.bind_eq_some_iff.mp H
                          obtain ⟨⟨t149, t150, t151⟩, A500, H⟩ := H
                          replace H : ((detector_Report.f kj37 t149 t150 t151).bind fun t152 => (if t152 = 0 then (if x5_34 = 0 then (railplanlaw31_DetectorSafe.l0 kj37 x5_34 t126 x129001_37 t149 t150 t151) else (some false)) else (railplanlaw31_DetectorSafe.l0 kj37 x5_34 t126 x129001_37 t149 t150 t151))) = some r := H
                          have A50 := Aside0.mk A500
                          clear A500
                          replace H := Option.bind_eq_some_iff.mp H
                          obtain ⟨t152, A510, H⟩ := H
                          replace H : (if t152 = 0 then (if x5_34 = 0 then (railplanlaw31_DetectorSafe.l0 kj37 x5_34 t126 x129001_37 t149 t150 t151) else (some false)) else (railplanlaw31_DetectorSafe.l0 kj37 x5_34 t126 x129001_37 t149 t150 t151)) = some r := H
                          have A51 := Aside0.mk A510
                          clear A510
                          by_cases c52 : t152 = 0
                          · rw [if_pos c52] at H
                            have c52b0 : (t152 == 0) = true := beq_iff_eq.mpr c52
                            have c52b1 : (t152 != 0) = false := bne_eq_false_iff_eq.mpr c52
                            clear c52
                            by_cases c53 : x5_34 = 0
                            · rw [if_pos c53] at H
                              have c53b0 : (x5_34 == 0) = true := beq_iff_eq.mpr c53
                              have c53b1 : (x5_34 != 0) = false := bne_eq_false_iff_eq.mpr c53
                              clear c53
                              have H' := Aside0.mk H
                              clear H
                              have hnb54 := NB129_137.out
                              have hnc54 := NB137_129.out
                              have hnb55 := NB129_128.out
                              have hnc55 := NB128_129.out
                              have hcz56_0 : wc.cell? ⟨gb129, 0, none⟩ = some (.int .i64 t144) := (blk_cell BK129.out 0).trans rfl
                              have hcz56_1 : wc.cell? ⟨gb129, 1, none⟩ = some (.int .i64 t145) := (blk_cell BK129.out 1).trans rfl
                              have hcz56_2 : wc.cell? ⟨gb129, 2, none⟩ = some (.int .i64 t146) := (blk_cell BK129.out 2).trans rfl
                              have hfz56_0 := blk_frozen BK129.out 0
                              have hfz56_1 := blk_frozen BK129.out 1
                              have hfz56_2 := blk_frozen BK129.out 2
                              go_wp2_with (first | ((with_reducible refine gate_callee (f := 18) rfl ?_); refine goesL_ (some 61) rfl rfl Try.func18 (by kernel_rfl) rfl #[.agg #[.int .i64 t144, .int .i64 t145, .int .i64 t146]] rfl (by (try simp only [List.map_toArray, List.map_cons, List.map_nil]); first | done | rfl | (simp only [List.length_drop, List.length_take]; rfl)) ?_; (with_reducible refine (detector_Reset.calls t144 t145 t146 t149 t150 t151 _ A50.out).mono ?_); rintro e w57 ⟨rfl, hb⟩; refine ⟨_, rfl, ?_⟩; have n0_ := Aside0.mk (blk_below (g := gb129) (o := .cells #[.int .i64 t144, .int .i64 t145, .int .i64 t146] 26 (0, 0)) (by (with_reducible repeat (first | refine blk_drewN ?_ _ | refine blk_drew ?_ | refine blk_alloc ?_ _)); exact BK129.out) hb); have n1_ := Aside0.mk (blk_below (g := gb137) (o := .cells #[.int .i64 0, .bool x7_9, .int .i64 x138002_16, .int .i64 x138003_16] 31 (0, 0)) (by (with_reducible repeat (first | refine blk_drewN ?_ _ | refine blk_drew ?_ | refine blk_alloc ?_ _)); exact BK137.out) hb); have n2_ := Aside0.mk (IsS48.below (by repeat (first | (with_reducible first | exact HI128.out | apply IsS48.alloc | apply IsS48.drewN | apply IsS48.drew | apply IsS48.set_1 | refine IsS48.far ?_ NB128_129.out _ | refine IsS48.far ?_ NB128_137.out _) | exact HI128.out)) hb); have n3_ := Aside0.mk (below_step (by repeat (first | (with_reducible first | exact HB.out | apply below_alloc | apply pw_below_drewN | apply below_drew1 | refine below_set ?_ (IsS48.ge HI128.out) | refine below_set ?_ GE129.out | refine below_set ?_ GE137.out) | exact HB.out)) hb); clear BK129; clear BK137; clear HI128; clear HB; have BK129 := n0_; have BK137 := n1_; have HI128 := n2_; have HB := n3_; clear n0_ n1_ n2_ n3_; (try clear hb); (try clear hb2); (try clear hk); (try clear hi); have hcz58_0 : w57.cell? ⟨gb129, 0, none⟩ = some (.int .i64 t144) := (blk_cell BK129.out 0).trans rfl; have hcz58_1 : w57.cell? ⟨gb129, 1, none⟩ = some (.int .i64 t145) := (blk_cell BK129.out 1).trans rfl; have hcz58_2 : w57.cell? ⟨gb129, 2, none⟩ = some (.int .i64 t146) := (blk_cell BK129.out 2).trans rfl; have hfz58_0 := blk_frozen BK129.out 0; have hfz58_1 := blk_frozen BK129.out 1; have hfz58_2 := blk_frozen BK129.out 2) | ((with_reducible refine gate_callee (f := 15) rfl ?_); refine goesL_ (some 63) rfl rfl Try.func15 (by kernel_rfl) rfl #[.agg #[.int .i64 t149, .int .i64 t150, .int .i64 t151]] rfl (by (try simp only [List.map_toArray, List.map_cons, List.map_nil]); first | done | rfl | (simp only [List.length_drop, List.length_take]; rfl)) ?_; (with_reducible refine (detector_Report.calls kj37 t149 t150 t151 t152 _ A51.out).mono ?_); rintro e w59 ⟨rfl, hb⟩; refine ⟨_, rfl, ?_⟩; have n0_ := Aside0.mk (blk_below (g := gb129) (o := .cells #[.int .i64 t149, .int .i64 t150, .int .i64 t151] 26 (0, 0)) (by (with_reducible repeat (first | refine blk_drewN ?_ _ | refine blk_drew ?_ | refine blk_alloc ?_ _)); refine blk_put (cs := #[.int .i64 t149, .int .i64 t150, .int .i64 t146]) ?_ 2 _ rfl; (with_reducible repeat (first | refine blk_drewN ?_ _ | refine blk_drew ?_ | refine blk_alloc ?_ _)); refine blk_put (cs := #[.int .i64 t149, .int .i64 t145, .int .i64 t146]) ?_ 1 _ rfl; (with_reducible repeat (first | refine blk_drewN ?_ _ | refine blk_drew ?_ | refine blk_alloc ?_ _)); refine blk_put (cs := #[.int .i64 t144, .int .i64 t145, .int .i64 t146]) ?_ 0 _ rfl; (with_reducible repeat (first | refine blk_drewN ?_ _ | refine blk_drew ?_ | refine blk_alloc ?_ _)); exact BK129.out) hb); have n1_ := Aside0.mk (blk_below (g := gb137) (o := .cells #[.int .i64 0, .bool x7_9, .int .i64 x138002_16, .int .i64 x138003_16] 31 (0, 0)) (by (with_reducible repeat (first | refine blk_drewN ?_ _ | refine blk_drew ?_ | refine blk_alloc ?_ _)); refine blk_far ?_ NB137_129.out _; (with_reducible repeat (first | refine blk_drewN ?_ _ | refine blk_drew ?_ | refine blk_alloc ?_ _)); refine blk_far ?_ NB137_129.out _; (with_reducible repeat (first | refine blk_drewN ?_ _ | refine blk_drew ?_ | refine blk_alloc ?_ _)); refine blk_far ?_ NB137_129.out _; (with_reducible repeat (first | refine blk_drewN ?_ _ | refine blk_drew ?_ | refine blk_alloc ?_ _)); exact BK137.out) hb); have n2_ := Aside0.mk (IsS48.below (show IsS48 w (((w57.setCell ⟨gb129, 0, none⟩ (.int .i64 t149)).setCell ⟨gb129, 1, none⟩ (.int .i64 t150)).setCell ⟨gb129, 2, none⟩ (.int .i64 t151)) g128 t126 x129001_37 from by repeat (first | (with_reducible first | exact HI128.out | apply IsS48.alloc | apply IsS48.drewN | apply IsS48.drew | apply IsS48.set_1 | refine IsS48.far ?_ NB128_129.out _ | refine IsS48.far ?_ NB128_137.out _) | exact HI128.out)) hb); have n3_ := Aside0.mk (below_step (by repeat (first | (with_reducible first | exact HB.out | apply below_alloc | apply pw_below_drewN | apply below_drew1 | refine below_set ?_ (IsS48.ge HI128.out) | refine below_set ?_ GE129.out | refine below_set ?_ GE137.out) | exact HB.out)) hb); clear BK129; clear BK137; clear HI128; clear HB; have BK129 := n0_; have BK137 := n1_; have HI128 := n2_; have HB := n3_; clear n0_ n1_ n2_ n3_; (try clear hb); (try clear hb2); (try clear hk); (try clear hi)))
                              go_roundg kj37
                              case measure => have := HK1.out; have := HJ9.out; have := HJ16.out; have := HJ34.out; have := HJ37.out; omega
                              case rel => exact ⟨(x5_34), (x129001_37), (t149), (t150), (t151), (by first | rfl | (simp; done) | (simp [*]; done)), H', ⟨by have := HK1.out; have := HJ9.out; have := HJ16.out; have := HJ34.out; have := HJ37.out; omega⟩, ⟨by (with_reducible repeat (first | refine blk_drewN ?_ _ | refine blk_drew ?_ | refine blk_alloc ?_ _)); exact BK129.out⟩, ⟨by repeat (first | (with_reducible first | exact HI128.out | apply IsS48.alloc | apply IsS48.drewN | apply IsS48.drew | apply IsS48.set_1 | refine IsS48.far ?_ NB128_129.out _ | refine IsS48.far ?_ NB128_137.out _) | exact HI128.out)⟩, ⟨by repeat (first | (with_reducible first | exact HB.out | apply below_alloc | apply pw_below_drewN | apply below_drew1 | refine below_set ?_ (IsS48.ge HI128.out) | refine below_set ?_ GE129.out | refine below_set ?_ GE137.out) | exact HB.out)⟩⟩
                            · rw [if_neg c53] at H
                              have c53b0 : (x5_34 == 0) = false := beq_eq_false_iff_ne.mpr c53
                              have c53b1 : (x5_34 != 0) = true := bne_iff_ne.mpr c53
                              obtain rfl := Option.some.inj H
                              have hnb60 := NB129_137.out
                              have hnc60 := NB137_129.out
                              have hnb61 := NB129_128.out
                              have hnc61 := NB128_129.out
                              have hcz62_0 : wc.cell? ⟨gb129, 0, none⟩ = some (.int .i64 t144) := (blk_cell BK129.out 0).trans rfl
                              have hcz62_1 : wc.cell? ⟨gb129, 1, none⟩ = some (.int .i64 t145) := (blk_cell BK129.out 1).trans rfl
                              have hcz62_2 : wc.cell? ⟨gb129, 2, none⟩ = some (.int .i64 t146) := (blk_cell BK129.out 2).trans rfl
                              have hfz62_0 := blk_frozen BK129.out 0
                              have hfz62_1 := blk_frozen BK129.out 1
                              have hfz62_2 := blk_frozen BK129.out 2
                              go_wp2_with (first | ((with_reducible refine gate_callee (f := 18) rfl ?_); refine goesL_ (some 61) rfl rfl Try.func18 (by kernel_rfl) rfl #[.agg #[.int .i64 t144, .int .i64 t145, .int .i64 t146]] rfl (by (try simp only [List.map_toArray, List.map_cons, List.map_nil]); first | done | rfl | (simp only [List.length_drop, List.length_take]; rfl)) ?_; (with_reducible refine (detector_Reset.calls t144 t145 t146 t149 t150 t151 _ A50.out).mono ?_); rintro e w63 ⟨rfl, hb⟩; refine ⟨_, rfl, ?_⟩; have n0_ := Aside0.mk (blk_below (g := gb129) (o := .cells #[.int .i64 t144, .int .i64 t145, .int .i64 t146] 26 (0, 0)) (by (with_reducible repeat (first | refine blk_drewN ?_ _ | refine blk_drew ?_ | refine blk_alloc ?_ _)); exact BK129.out) hb); have n1_ := Aside0.mk (blk_below (g := gb137) (o := .cells #[.int .i64 0, .bool x7_9, .int .i64 x138002_16, .int .i64 x138003_16] 31 (0, 0)) (by (with_reducible repeat (first | refine blk_drewN ?_ _ | refine blk_drew ?_ | refine blk_alloc ?_ _)); exact BK137.out) hb); have n2_ := Aside0.mk (IsS48.below (by repeat (first | (with_reducible first | exact HI128.out | apply IsS48.alloc | apply IsS48.drewN | apply IsS48.drew | apply IsS48.set_1 | refine IsS48.far ?_ NB128_129.out _ | refine IsS48.far ?_ NB128_137.out _) | exact HI128.out)) hb); have n3_ := Aside0.mk (below_step (by repeat (first | (with_reducible first | exact HB.out | apply below_alloc | apply pw_below_drewN | apply below_drew1 | refine below_set ?_ (IsS48.ge HI128.out) | refine below_set ?_ GE129.out | refine below_set ?_ GE137.out) | exact HB.out)) hb); clear BK129; clear BK137; clear HI128; clear HB; have BK129 := n0_; have BK137 := n1_; have HI128 := n2_; have HB := n3_; clear n0_ n1_ n2_ n3_; (try clear hb); (try clear hb2); (try clear hk); (try clear hi); have hcz64_0 : w63.cell? ⟨gb129, 0, none⟩ = some (.int .i64 t144) := (blk_cell BK129.out 0).trans rfl; have hcz64_1 : w63.cell? ⟨gb129, 1, none⟩ = some (.int .i64 t145) := (blk_cell BK129.out 1).trans rfl; have hcz64_2 : w63.cell? ⟨gb129, 2, none⟩ = some (.int .i64 t146) := (blk_cell BK129.out 2).trans rfl; have hfz64_0 := blk_frozen BK129.out 0; have hfz64_1 := blk_frozen BK129.out 1; have hfz64_2 := blk_frozen BK129.out 2) | ((with_reducible refine gate_callee (f := 15) rfl ?_); refine goesL_ (some 63) rfl rfl Try.func15 (by kernel_rfl) rfl #[.agg #[.int .i64 t149, .int .i64 t150, .int .i64 t151]] rfl (by (try simp only [List.map_toArray, List.map_cons, List.map_nil]); first | done | rfl | (simp only [List.length_drop, List.length_take]; rfl)) ?_; (with_reducible refine (detector_Report.calls kj37 t149 t150 t151 t152 _ A51.out).mono ?_); rintro e w65 ⟨rfl, hb⟩; refine ⟨_, rfl, ?_⟩; have n0_ := Aside0.mk (blk_below (g := gb129) (o := .cells #[.int .i64 t149, .int .i64 t150, .int .i64 t151] 26 (0, 0)) (by (with_reducible repeat (first | refine blk_drewN ?_ _ | refine blk_drew ?_ | refine blk_alloc ?_ _)); refine blk_put (cs := #[.int .i64 t149, .int .i64 t150, .int .i64 t146]) ?_ 2 _ rfl; (with_reducible repeat (first | refine blk_drewN ?_ _ | refine blk_drew ?_ | refine blk_alloc ?_ _)); refine blk_put (cs := #[.int .i64 t149, .int .i64 t145, .int .i64 t146]) ?_ 1 _ rfl; (with_reducible repeat (first | refine blk_drewN ?_ _ | refine blk_drew ?_ | refine blk_alloc ?_ _)); refine blk_put (cs := #[.int .i64 t144, .int .i64 t145, .int .i64 t146]) ?_ 0 _ rfl; (with_reducible repeat (first | refine blk_drewN ?_ _ | refine blk_drew ?_ | refine blk_alloc ?_ _)); exact BK129.out) hb); have n1_ := Aside0.mk (blk_below (g := gb137) (o := .cells #[.int .i64 0, .bool x7_9, .int .i64 x138002_16, .int .i64 x138003_16] 31 (0, 0)) (by (with_reducible repeat (first | refine blk_drewN ?_ _ | refine blk_drew ?_ | refine blk_alloc ?_ _)); refine blk_far ?_ NB137_129.out _; (with_reducible repeat (first | refine blk_drewN ?_ _ | refine blk_drew ?_ | refine blk_alloc ?_ _)); refine blk_far ?_ NB137_129.out _; (with_reducible repeat (first | refine blk_drewN ?_ _ | refine blk_drew ?_ | refine blk_alloc ?_ _)); refine blk_far ?_ NB137_129.out _; (with_reducible repeat (first | refine blk_drewN ?_ _ | refine blk_drew ?_ | refine blk_alloc ?_ _)); exact BK137.out) hb); have n2_ := Aside0.mk (IsS48.below (show IsS48 w (((w63.setCell ⟨gb129, 0, none⟩ (.int .i64 t149)).setCell ⟨gb129, 1, none⟩ (.int .i64 t150)).setCell ⟨gb129, 2, none⟩ (.int .i64 t151)) g128 t126 x129001_37 from by repeat (first | (with_reducible first | exact HI128.out | apply IsS48.alloc | apply IsS48.drewN | apply IsS48.drew | apply IsS48.set_1 | refine IsS48.far ?_ NB128_129.out _ | refine IsS48.far ?_ NB128_137.out _) | exact HI128.out)) hb); have n3_ := Aside0.mk (below_step (by repeat (first | (with_reducible first | exact HB.out | apply below_alloc | apply pw_below_drewN | apply below_drew1 | refine below_set ?_ (IsS48.ge HI128.out) | refine below_set ?_ GE129.out | refine below_set ?_ GE137.out) | exact HB.out)) hb); clear BK129; clear BK137; clear HI128; clear HB; have BK129 := n0_; have BK137 := n1_; have HI128 := n2_; have HB := n3_; clear n0_ n1_ n2_ n3_; (try clear hb); (try clear hb2); (try clear hk); (try clear hi)))
                              go_ret
                              exact ⟨by first | rfl | (simp [errW_none, errW_some] <;> rfl) | (simp [*, errW_none, errW_some] <;> rfl), by repeat (first | (with_reducible first | exact HB.out | apply below_alloc | apply pw_below_drewN | apply below_drew1 | refine below_set ?_ (IsS48.ge HI128.out) | refine below_set ?_ GE129.out | refine below_set ?_ GE137.out) | exact HB.out)⟩
                          · rw [if_neg c52] at H
                            have c52b0 : (t152 == 0) = false := beq_eq_false_iff_ne.mpr c52
                            have c52b1 : (t152 != 0) = true := bne_iff_ne.mpr c52
                            have H' := Aside0.mk H
                            clear H
                            have hnb66 := NB129_137.out
                            have hnc66 := NB137_129.out
                            have hnb67 := NB129_128.out
                            have hnc67 := NB128_129.out
                            have hcz68_0 : wc.cell? ⟨gb129, 0, none⟩ = some (.int .i64 t144) := (blk_cell BK129.out 0).trans rfl
                            have hcz68_1 : wc.cell? ⟨gb129, 1, none⟩ = some (.int .i64 t145) := (blk_cell BK129.out 1).trans rfl
                            have hcz68_2 : wc.cell? ⟨gb129, 2, none⟩ = some (.int .i64 t146) := (blk_cell BK129.out 2).trans rfl
                            have hfz68_0 := blk_frozen BK129.out 0
                            have hfz68_1 := blk_frozen BK129.out 1
                            have hfz68_2 := blk_frozen BK129.out 2
                            go_wp2_with (first | ((with_reducible refine gate_callee (f := 18) rfl ?_); refine goesL_ (some 61) rfl rfl Try.func18 (by kernel_rfl) rfl #[.agg #[.int .i64 t144, .int .i64 t145, .int .i64 t146]] rfl (by (try simp only [List.map_toArray, List.map_cons, List.map_nil]); first | done | rfl | (simp only [List.length_drop, List.length_take]; rfl)) ?_; (with_reducible refine (detector_Reset.calls t144 t145 t146 t149 t150 t151 _ A50.out).mono ?_); rintro e w69 ⟨rfl, hb⟩; refine ⟨_, rfl, ?_⟩; have n0_ := Aside0.mk (blk_below (g := gb129) (o := .cells #[.int .i64 t144, .int .i64 t145, .int .i64 t146] 26 (0, 0)) (by (with_reducible repeat (first | refine blk_drewN ?_ _ | refine blk_drew ?_ | refine blk_alloc ?_ _)); exact BK129.out) hb); have n1_ := Aside0.mk (blk_below (g := gb137) (o := .cells #[.int .i64 0, .bool x7_9, .int .i64 x138002_16, .int .i64 x138003_16] 31 (0, 0)) (by (with_reducible repeat (first | refine blk_drewN ?_ _ | refine blk_drew ?_ | refine blk_alloc ?_ _)); exact BK137.out) hb); have n2_ := Aside0.mk (IsS48.below (by repeat (first | (with_reducible first | exact HI128.out | apply IsS48.alloc | apply IsS48.drewN | apply IsS48.drew | apply IsS48.set_1 | refine IsS48.far ?_ NB128_129.out _ | refine IsS48.far ?_ NB128_137.out _) | exact HI128.out)) hb); have n3_ := Aside0.mk (below_step (by repeat (first | (with_reducible first | exact HB.out | apply below_alloc | apply pw_below_drewN | apply below_drew1 | refine below_set ?_ (IsS48.ge HI128.out) | refine below_set ?_ GE129.out | refine below_set ?_ GE137.out) | exact HB.out)) hb); clear BK129; clear BK137; clear HI128; clear HB; have BK129 := n0_; have BK137 := n1_; have HI128 := n2_; have HB := n3_; clear n0_ n1_ n2_ n3_; (try clear hb); (try clear hb2); (try clear hk); (try clear hi); have hcz70_0 : w69.cell? ⟨gb129, 0, none⟩ = some (.int .i64 t144) := (blk_cell BK129.out 0).trans rfl; have hcz70_1 : w69.cell? ⟨gb129, 1, none⟩ = some (.int .i64 t145) := (blk_cell BK129.out 1).trans rfl; have hcz70_2 : w69.cell? ⟨gb129, 2, none⟩ = some (.int .i64 t146) := (blk_cell BK129.out 2).trans rfl; have hfz70_0 := blk_frozen BK129.out 0; have hfz70_1 := blk_frozen BK129.out 1; have hfz70_2 := blk_frozen BK129.out 2) | ((with_reducible refine gate_callee (f := 15) rfl ?_); refine goesL_ (some 63) rfl rfl Try.func15 (by kernel_rfl) rfl #[.agg #[.int .i64 t149, .int .i64 t150, .int .i64 t151]] rfl (by (try simp only [List.map_toArray, List.map_cons, List.map_nil]); first | done | rfl | (simp only [List.length_drop, List.length_take]; rfl)) ?_; (with_reducible refine (detector_Report.calls kj37 t149 t150 t151 t152 _ A51.out).mono ?_); rintro e w71 ⟨rfl, hb⟩; refine ⟨_, rfl, ?_⟩; have n0_ := Aside0.mk (blk_below (g := gb129) (o := .cells #[.int .i64 t149, .int .i64 t150, .int .i64 t151] 26 (0, 0)) (by (with_reducible repeat (first | refine blk_drewN ?_ _ | refine blk_drew ?_ | refine blk_alloc ?_ _)); refine blk_put (cs := #[.int .i64 t149, .int .i64 t150, .int .i64 t146]) ?_ 2 _ rfl; (with_reducible repeat (first | refine blk_drewN ?_ _ | refine blk_drew ?_ | refine blk_alloc ?_ _)); refine blk_put (cs := #[.int .i64 t149, .int .i64 t145, .int .i64 t146]) ?_ 1 _ rfl; (with_reducible repeat (first | refine blk_drewN ?_ _ | refine blk_drew ?_ | refine blk_alloc ?_ _)); refine blk_put (cs := #[.int .i64 t144, .int .i64 t145, .int .i64 t146]) ?_ 0 _ rfl; (with_reducible repeat (first | refine blk_drewN ?_ _ | refine blk_drew ?_ | refine blk_alloc ?_ _)); exact BK129.out) hb); have n1_ := Aside0.mk (blk_below (g := gb137) (o := .cells #[.int .i64 0, .bool x7_9, .int .i64 x138002_16, .int .i64 x138003_16] 31 (0, 0)) (by (with_reducible repeat (first | refine blk_drewN ?_ _ | refine blk_drew ?_ | refine blk_alloc ?_ _)); refine blk_far ?_ NB137_129.out _; (with_reducible repeat (first | refine blk_drewN ?_ _ | refine blk_drew ?_ | refine blk_alloc ?_ _)); refine blk_far ?_ NB137_129.out _; (with_reducible repeat (first | refine blk_drewN ?_ _ | refine blk_drew ?_ | refine blk_alloc ?_ _)); refine blk_far ?_ NB137_129.out _; (with_reducible repeat (first | refine blk_drewN ?_ _ | refine blk_drew ?_ | refine blk_alloc ?_ _)); exact BK137.out) hb); have n2_ := Aside0.mk (IsS48.below (show IsS48 w (((w69.setCell ⟨gb129, 0, none⟩ (.int .i64 t149)).setCell ⟨gb129, 1, none⟩ (.int .i64 t150)).setCell ⟨gb129, 2, none⟩ (.int .i64 t151)) g128 t126 x129001_37 from by repeat (first | (with_reducible first | exact HI128.out | apply IsS48.alloc | apply IsS48.drewN | apply IsS48.drew | apply IsS48.set_1 | refine IsS48.far ?_ NB128_129.out _ | refine IsS48.far ?_ NB128_137.out _) | exact HI128.out)) hb); have n3_ := Aside0.mk (below_step (by repeat (first | (with_reducible first | exact HB.out | apply below_alloc | apply pw_below_drewN | apply below_drew1 | refine below_set ?_ (IsS48.ge HI128.out) | refine below_set ?_ GE129.out | refine below_set ?_ GE137.out) | exact HB.out)) hb); clear BK129; clear BK137; clear HI128; clear HB; have BK129 := n0_; have BK137 := n1_; have HI128 := n2_; have HB := n3_; clear n0_ n1_ n2_ n3_; (try clear hb); (try clear hb2); (try clear hk); (try clear hi)))
                            go_roundg kj37
                            case measure => have := HK1.out; have := HJ9.out; have := HJ16.out; have := HJ34.out; have := HJ37.out; omega
                            case rel => exact ⟨(x5_34), (x129001_37), (t149), (t150), (t151), (by first | rfl | (simp; done) | (simp [*]; done)), H', ⟨by have := HK1.out; have := HJ9.out; have := HJ16.out; have := HJ34.out; have := HJ37.out; omega⟩, ⟨by (with_reducible repeat (first | refine blk_drewN ?_ _ | refine blk_drew ?_ | refine blk_alloc ?_ _)); exact BK129.out⟩, ⟨by repeat (first | (with_reducible first | exact HI128.out | apply IsS48.alloc | apply IsS48.drewN | apply IsS48.drew | apply IsS48.set_1 | refine IsS48.far ?_ NB128_129.out _ | refine IsS48.far ?_ NB128_137.out _) | exact HI128.out)⟩, ⟨by repeat (first | (with_reducible first | exact HB.out | apply below_alloc | apply pw_below_drewN | apply below_drew1 | refine below_set ?_ (IsS48.ge HI128.out) | refine below_set ?_ GE129.out | refine below_set ?_ GE137.out) | exact HB.out)⟩⟩
                        · replace c49 := Bool.eq_false_iff.mpr c49
                          subst c49
                          have H1 : ((detector_Report.f kj37 t144 t145 t146).bind fun t153 => (if t153 = 0 then (if x5_34 = 0 then (railplanlaw31_DetectorSafe.l0 kj37 x5_34 t126 x129001_37 t144 t145 t146) else (some false)) else (railplanlaw31_DetectorSafe.l0 kj37 x5_34 t126 x129001_37 t144 t145 t146))) = some r := by rw [if_neg (show ¬ (false = true) by decide)] at H; exact H
                          clear H
                          have H := H1
                          clear H1
                          replace H := Option.bind_eq_some_iff.mp H
                          obtain ⟨t153, A720, H⟩ := H
                          replace H : (if t153 = 0 then (if x5_34 = 0 then (railplanlaw31_DetectorSafe.l0 kj37 x5_34 t126 x129001_37 t144 t145 t146) else (some false)) else (railplanlaw31_DetectorSafe.l0 kj37 x5_34 t126 x129001_37 t144 t145 t146)) = some r := H
                          have A72 := Aside0.mk A720
                          clear A720
                          by_cases c73 : t153 = 0
                          · rw [if_pos c73] at H
                            have c73b0 : (t153 == 0) = true := beq_iff_eq.mpr c73
                            have c73b1 : (t153 != 0) = false := bne_eq_false_iff_eq.mpr c73
                            clear c73
                            by_cases c74 : x5_34 = 0
                            · rw [if_pos c74] at H
                              have c74b0 : (x5_34 == 0) = true := beq_iff_eq.mpr c74
                              have c74b1 : (x5_34 != 0) = false := bne_eq_false_iff_eq.mpr c74
                              clear c74
                              have H' := Aside0.mk H
                              clear H
                              have hnb75 := NB129_137.out
                              have hnc75 := NB137_129.out
                              have hnb76 := NB129_128.out
                              have hnc76 := NB128_129.out
                              have hcz77_0 : wc.cell? ⟨gb129, 0, none⟩ = some (.int .i64 t144) := (blk_cell BK129.out 0).trans rfl
                              have hcz77_1 : wc.cell? ⟨gb129, 1, none⟩ = some (.int .i64 t145) := (blk_cell BK129.out 1).trans rfl
                              have hcz77_2 : wc.cell? ⟨gb129, 2, none⟩ = some (.int .i64 t146) := (blk_cell BK129.out 2).trans rfl
                              have hfz77_0 := blk_frozen BK129.out 0
                              have hfz77_1 := blk_frozen BK129.out 1
                              have hfz77_2 := blk_frozen BK129.out 2
                              go_wp2_with (first | ((with_reducible refine gate_callee (f := 15) rfl ?_); refine goesL_ (some 63) rfl rfl Try.func15 (by kernel_rfl) rfl #[.agg #[.int .i64 t144, .int .i64 t145, .int .i64 t146]] rfl (by (try simp only [List.map_toArray, List.map_cons, List.map_nil]); first | done | rfl | (simp only [List.length_drop, List.length_take]; rfl)) ?_; (with_reducible refine (detector_Report.calls kj37 t144 t145 t146 t153 _ A72.out).mono ?_); rintro e w78 ⟨rfl, hb⟩; refine ⟨_, rfl, ?_⟩; have n0_ := Aside0.mk (blk_below (g := gb129) (o := .cells #[.int .i64 t144, .int .i64 t145, .int .i64 t146] 26 (0, 0)) (by (with_reducible repeat (first | refine blk_drewN ?_ _ | refine blk_drew ?_ | refine blk_alloc ?_ _)); exact BK129.out) hb); have n1_ := Aside0.mk (blk_below (g := gb137) (o := .cells #[.int .i64 0, .bool x7_9, .int .i64 x138002_16, .int .i64 x138003_16] 31 (0, 0)) (by (with_reducible repeat (first | refine blk_drewN ?_ _ | refine blk_drew ?_ | refine blk_alloc ?_ _)); exact BK137.out) hb); have n2_ := Aside0.mk (IsS48.below (by repeat (first | (with_reducible first | exact HI128.out | apply IsS48.alloc | apply IsS48.drewN | apply IsS48.drew | apply IsS48.set_1 | refine IsS48.far ?_ NB128_129.out _ | refine IsS48.far ?_ NB128_137.out _) | exact HI128.out)) hb); have n3_ := Aside0.mk (below_step (by repeat (first | (with_reducible first | exact HB.out | apply below_alloc | apply pw_below_drewN | apply below_drew1 | refine below_set ?_ (IsS48.ge HI128.out) | refine below_set ?_ GE129.out | refine below_set ?_ GE137.out) | exact HB.out)) hb); clear BK129; clear BK137; clear HI128; clear HB; have BK129 := n0_; have BK137 := n1_; have HI128 := n2_; have HB := n3_; clear n0_ n1_ n2_ n3_; (try clear hb); (try clear hb2); (try clear hk); (try clear hi)))
                              go_roundg kj37
                              case measure => have := HK1.out; have := HJ9.out; have := HJ16.out; have := HJ34.out; have := HJ37.out; omega
                              case rel => exact ⟨(x5_34), (x129001_37), (t144), (t145), (t146), (by first | rfl | (simp; done) | (simp [*]; done)), H', ⟨by have := HK1.out; have := HJ9.out; have := HJ16.out; have := HJ34.out; have := HJ37.out; omega⟩, ⟨by (with_reducible repeat (first | refine blk_drewN ?_ _ | refine blk_drew ?_ | refine blk_alloc ?_ _)); exact BK129.out⟩, ⟨by repeat (first | (with_reducible first | exact HI128.out | apply IsS48.alloc | apply IsS48.drewN | apply IsS48.drew | apply IsS48.set_1 | refine IsS48.far ?_ NB128_129.out _ | refine IsS48.far ?_ NB128_137.out _) | exact HI128.out)⟩, ⟨by repeat (first | (with_reducible first | exact HB.out | apply below_alloc | apply pw_below_drewN | apply below_drew1 | refine below_set ?_ (IsS48.ge HI128.out) | refine below_set ?_ GE129.out | refine below_set ?_ GE137.out) | exact HB.out)⟩⟩
                            · rw [if_neg c74] at H
                              have c74b0 : (x5_34 == 0) = false := beq_eq_false_iff_ne.mpr c74
                              have c74b1 : (x5_34 != 0) = true := bne_iff_ne.mpr c74
                              obtain rfl := Option.some.inj H
                              have hnb79 := NB129_137.out
                              have hnc79 := NB137_129.out
                              have hnb80 := NB129_128.out
                              have hnc80 := NB128_129.out
                              have hcz81_0 : wc.cell? ⟨gb129, 0, none⟩ = some (.int .i64 t144) := (blk_cell BK129.out 0).trans rfl
                              have hcz81_1 : wc.cell? ⟨gb129, 1, none⟩ = some (.int .i64 t145) := (blk_cell BK129.out 1).trans rfl
                              have hcz81_2 : wc.cell? ⟨gb129, 2, none⟩ = some (.int .i64 t146) := (blk_cell BK129.out 2).trans rfl
                              have hfz81_0 := blk_frozen BK129.out 0
                              have hfz81_1 := blk_frozen BK129.out 1
                              have hfz81_2 := blk_frozen BK129.out 2
                              go_wp2_with (first | ((with_reducible refine gate_callee (f := 15) rfl ?_); refine goesL_ (some 63) rfl rfl Try.func15 (by kernel_rfl) rfl #[.agg #[.int .i64 t144, .int .i64 t145, .int .i64 t146]] rfl (by (try simp only [List.map_toArray, List.map_cons, List.map_nil]); first | done | rfl | (simp only [List.length_drop, List.length_take]; rfl)) ?_; (with_reducible refine (detector_Report.calls kj37 t144 t145 t146 t153 _ A72.out).mono ?_); rintro e w82 ⟨rfl, hb⟩; refine ⟨_, rfl, ?_⟩; have n0_ := Aside0.mk (blk_below (g := gb129) (o := .cells #[.int .i64 t144, .int .i64 t145, .int .i64 t146] 26 (0, 0)) (by (with_reducible repeat (first | refine blk_drewN ?_ _ | refine blk_drew ?_ | refine blk_alloc ?_ _)); exact BK129.out) hb); have n1_ := Aside0.mk (blk_below (g := gb137) (o := .cells #[.int .i64 0, .bool x7_9, .int .i64 x138002_16, .int .i64 x138003_16] 31 (0, 0)) (by (with_reducible repeat (first | refine blk_drewN ?_ _ | refine blk_drew ?_ | refine blk_alloc ?_ _)); exact BK137.out) hb); have n2_ := Aside0.mk (IsS48.below (by repeat (first | (with_reducible first | exact HI128.out | apply IsS48.alloc | apply IsS48.drewN | apply IsS48.drew | apply IsS48.set_1 | refine IsS48.far ?_ NB128_129.out _ | refine IsS48.far ?_ NB128_137.out _) | exact HI128.out)) hb); have n3_ := Aside0.mk (below_step (by repeat (first | (with_reducible first | exact HB.out | apply below_alloc | apply pw_below_drewN | apply below_drew1 | refine below_set ?_ (IsS48.ge HI128.out) | refine below_set ?_ GE129.out | refine below_set ?_ GE137.out) | exact HB.out)) hb); clear BK129; clear BK137; clear HI128; clear HB; have BK129 := n0_; have BK137 := n1_; have HI128 := n2_; have HB := n3_; clear n0_ n1_ n2_ n3_; (try clear hb); (try clear hb2); (try clear hk); (try clear hi)))
                              go_ret
                              exact ⟨by first | rfl | (simp [errW_none, errW_some] <;> rfl) | (simp [*, errW_none, errW_some] <;> rfl), by repeat (first | (with_reducible first | exact HB.out | apply below_alloc | apply pw_below_drewN | apply below_drew1 | refine below_set ?_ (IsS48.ge HI128.out) | refine below_set ?_ GE129.out | refine below_set ?_ GE137.out) | exact HB.out)⟩
                          · rw [if_neg c73] at H
                            have c73b0 : (t153 == 0) = false := beq_eq_false_iff_ne.mpr c73
                            have c73b1 : (t153 != 0) = true := bne_iff_ne.mpr c73
                            have H' := Aside0.mk H
                            clear H
                            have hnb83 := NB129_137.out
                            have hnc83 := NB137_129.out
                            have hnb84 := NB129_128.out
                            have hnc84 := NB128_129.out
                            have hcz85_0 : wc.cell? ⟨gb129, 0, none⟩ = some (.int .i64 t144) := (blk_cell BK129.out 0).trans rfl
                            have hcz85_1 : wc.cell? ⟨gb129, 1, none⟩ = some (.int .i64 t145) := (blk_cell BK129.out 1).trans rfl
                            have hcz85_2 : wc.cell? ⟨gb129, 2, none⟩ = some (.int .i64 t146) := (blk_cell BK129.out 2).trans rfl
                            have hfz85_0 := blk_frozen BK129.out 0
                            have hfz85_1 := blk_frozen BK129.out 1
                            have hfz85_2 := blk_frozen BK129.out 2
                            go_wp2_with (first | ((with_reducible refine gate_callee (f := 15) rfl ?_); refine goesL_ (some 63) rfl rfl Try.func15 (by kernel_rfl) rfl #[.agg #[.int .i64 t144, .int .i64 t145, .int .i64 t146]] rfl (by (try simp only [List.map_toArray, List.map_cons, List.map_nil]); first | done | rfl | (simp only [List.length_drop, List.length_take]; rfl)) ?_; (with_reducible refine (detector_Report.calls kj37 t144 t145 t146 t153 _ A72.out).mono ?_); rintro e w86 ⟨rfl, hb⟩; refine ⟨_, rfl, ?_⟩; have n0_ := Aside0.mk (blk_below (g := gb129) (o := .cells #[.int .i64 t144, .int .i64 t145, .int .i64 t146] 26 (0, 0)) (by (with_reducible repeat (first | refine blk_drewN ?_ _ | refine blk_drew ?_ | refine blk_alloc ?_ _)); exact BK129.out) hb); have n1_ := Aside0.mk (blk_below (g := gb137) (o := .cells #[.int .i64 0, .bool x7_9, .int .i64 x138002_16, .int .i64 x138003_16] 31 (0, 0)) (by (with_reducible repeat (first | refine blk_drewN ?_ _ | refine blk_drew ?_ | refine blk_alloc ?_ _)); exact BK137.out) hb); have n2_ := Aside0.mk (IsS48.below (by repeat (first | (with_reducible first | exact HI128.out | apply IsS48.alloc | apply IsS48.drewN | apply IsS48.drew | apply IsS48.set_1 | refine IsS48.far ?_ NB128_129.out _ | refine IsS48.far ?_ NB128_137.out _) | exact HI128.out)) hb); have n3_ := Aside0.mk (below_step (by repeat (first | (with_reducible first | exact HB.out | apply below_alloc | apply pw_below_drewN | apply below_drew1 | refine below_set ?_ (IsS48.ge HI128.out) | refine below_set ?_ GE129.out | refine below_set ?_ GE137.out) | exact HB.out)) hb); clear BK129; clear BK137; clear HI128; clear HB; have BK129 := n0_; have BK137 := n1_; have HI128 := n2_; have HB := n3_; clear n0_ n1_ n2_ n3_; (try clear hb); (try clear hb2); (try clear hk); (try clear hi)))
                            go_roundg kj37
                            case measure => have := HK1.out; have := HJ9.out; have := HJ16.out; have := HJ34.out; have := HJ37.out; omega
                            case rel => exact ⟨(x5_34), (x129001_37), (t144), (t145), (t146), (by first | rfl | (simp; done) | (simp [*]; done)), H', ⟨by have := HK1.out; have := HJ9.out; have := HJ16.out; have := HJ34.out; have := HJ37.out; omega⟩, ⟨by (with_reducible repeat (first | refine blk_drewN ?_ _ | refine blk_drew ?_ | refine blk_alloc ?_ _)); exact BK129.out⟩, ⟨by repeat (first | (with_reducible first | exact HI128.out | apply IsS48.alloc | apply IsS48.drewN | apply IsS48.drew | apply IsS48.set_1 | refine IsS48.far ?_ NB128_129.out _ | refine IsS48.far ?_ NB128_137.out _) | exact HI128.out)⟩, ⟨by repeat (first | (with_reducible first | exact HB.out | apply below_alloc | apply pw_below_drewN | apply below_drew1 | refine below_set ?_ (IsS48.ge HI128.out) | refine below_set ?_ GE129.out | refine below_set ?_ GE137.out) | exact HB.out)⟩⟩
      · replace c8 := Bool.eq_false_iff.mpr c8
        subst c8
        have H1 : ((railplanlaw31_awake.f k1).bind fun t132 => (some t132)) = some r := by rw [if_neg (show ¬ (false = true) by decide)] at H; exact H
        clear H
        have H := H1
        clear H1
        replace H := Option.bind_eq_some_iff.mp H
        obtain ⟨t132, A870, H⟩ := H
        replace H : (some t132) = some r := H
        have A87 := Aside0.mk A870
        clear A870
        obtain rfl := Option.some.inj H
        go_wp2_with (first | ((with_reducible refine gate_callee (f := 12) rfl ?_); refine goesL_ (some 13) rfl rfl Try.func12 (by kernel_rfl) rfl #[.pointer (some ⟨g128, 0, none⟩)] rfl (by (try simp only [List.map_toArray, List.map_cons, List.map_nil]); first | done | rfl | (simp only [List.length_drop, List.length_take]; rfl)) ?_; (with_reducible refine (railplankeep_Source_Left.calls g128 t126 x129001_1 false t131 w _ ?side1 ?side2 A7.out).mono ?_); (case side1 => repeat (first | (with_reducible first | exact HI128.out | apply IsS48.alloc | apply IsS48.drewN | apply IsS48.drew | apply IsS48.set_1 | refine IsS48.far ?_ NB128_129.out _) | exact HI128.out)); (case side2 => repeat (first | (with_reducible first | exact HB.out | apply below_alloc | apply pw_below_drewN | apply below_drew1 | refine below_set ?_ (IsS48.ge HI128.out) | refine below_set ?_ GE129.out) | exact HB.out)); rintro e w88 ⟨rfl, hi, hb, hk⟩; refine ⟨_, rfl, ?_⟩; have n0_ := Aside0.mk (KeepBut.blk hk (g' := gb129) (o := .cells #[.int .i64 x130000_1, .int .i64 x130001_1, .int .i64 x130002_1] 26 (0, 0)) (by (with_reducible repeat (first | refine blk_drewN ?_ _ | refine blk_drew ?_ | refine blk_alloc ?_ _)); exact BK129.out) NB129_128.out (by simp)); have n1_ := Aside0.mk (hb); have n2_ := Aside0.mk (hi); clear BK129; clear HB; clear HI128; have BK129 := n0_; have HB := n1_; have HI128 := n2_; clear n0_ n1_ n2_; (try clear hb); (try clear hb2); (try clear hk); (try clear hi)) | ((with_reducible refine gate_callee (f := 16) rfl ?_); refine goesL_ (some 69) rfl rfl Try.func16 (by kernel_rfl) rfl #[] rfl (by (try simp only [List.map_toArray, List.map_cons, List.map_nil]); first | done | rfl | (simp only [List.length_drop, List.length_take]; rfl)) ?_; (with_reducible refine (railplanlaw31_awake.calls k1  t132 _ A87.out).mono ?_); rintro e w89 ⟨rfl, hb⟩; refine ⟨_, rfl, ?_⟩; have n0_ := Aside0.mk (blk_below (g := gb129) (o := .cells #[.int .i64 x130000_1, .int .i64 x130001_1, .int .i64 x130002_1] 26 (0, 0)) (by (with_reducible repeat (first | refine blk_drewN ?_ _ | refine blk_drew ?_ | refine blk_alloc ?_ _)); exact BK129.out) hb); have n1_ := Aside0.mk (IsS48.below (by repeat (first | (with_reducible first | exact HI128.out | apply IsS48.alloc | apply IsS48.drewN | apply IsS48.drew | apply IsS48.set_1 | refine IsS48.far ?_ NB128_129.out _) | exact HI128.out)) hb); have n2_ := Aside0.mk (below_step (by repeat (first | (with_reducible first | exact HB.out | apply below_alloc | apply pw_below_drewN | apply below_drew1 | refine below_set ?_ (IsS48.ge HI128.out) | refine below_set ?_ GE129.out) | exact HB.out)) hb); clear BK129; clear HI128; clear HB; have BK129 := n0_; have HI128 := n1_; have HB := n2_; clear n0_ n1_ n2_; (try clear hb); (try clear hb2); (try clear hk); (try clear hi)))
        go_ret
        exact ⟨by first | rfl | (simp [errW_none, errW_some] <;> rfl) | (simp [*, errW_none, errW_some] <;> rfl), by repeat (first | (with_reducible first | exact HB.out | apply below_alloc | apply pw_below_drewN | apply below_drew1 | refine below_set ?_ (IsS48.ge HI128.out) | refine below_set ?_ GE129.out) | exact HB.out)⟩

/-- THE ONE PURE STATEMENT of railplanlaw31_DetectorSafe: yours. -/
def railplanlaw31_DetectorSafe.Pure : Prop := ∀ (l0 : List Int), l0.length ≤ maxLen → l0.length * 8 ≤ 140737488351232 → (∀ x ∈ l0, (Lit.int .i64 x).wf = true) → ∃ k, railplanlaw31_DetectorSafe.f k l0 = some true
theorem railplanlaw31_DetectorSafe.walk (P : railplanlaw31_DetectorSafe.Pure) (a0 : Option Addr) (len0 cap0 : Nat) (z0 : List Int) (w : World) (w0 : (a0 = none ∧ len0 = 0 ∧ cap0 = 0 ∧ z0 = []) ∨ ∃ x, a0 = some x ∧ len0 ≤ cap0 ∧ cap0 ≤ maxLen ∧ z0.length = cap0 ∧ (∀ i, i < z0.length → w.cell? (x.add i) = some (.int .i64 (z0.getD i 0))) ∧ ∀ n ∈ z0, (Lit.int .i64 n).wf = true) (y0 : len0 * 8 ≤ 140737488351232) :
    Calls Try.prog 7 #[.slice a0 len0 cap0] w fun e w' => e = .returned (.bool true) ∧ Below w.heap.size w w' := by
  obtain ⟨l0, rfl, hr0, hm0, hw0, hc0⟩ := ReadsInt.ofRowC w0
  obtain ⟨k, h⟩ := P l0 hm0 y0 hw0
  refine (railplanlaw31_DetectorSafe.calls k _ _ l0 true w (Kd.C_of_reads (d := (0 : Int)) (h1 := fun _ => rfl) hr0) hc0 h).mono ?_
  rintro e w' ⟨rfl, hd⟩
  exact ⟨rfl, hd⟩

end Go.Proofs.Ytellgcahkpaldaa.PDetectorSafe
