/- Functions of the program, as the abstract machine's, and that they are. Conditions: none. -/
import Derived.Test.YthoicdnlcnppgaaAmCo
import Derived.Test.YthoicdnlcnppgaaAmEv
import Derived.Test.YthoicdnlcnppgaaProg
set_option linter.unusedVariables false
set_option linter.unusedSimpArgs false
namespace Go.Proofs.Ythoicdnlcnppgaa.Fn
open Go Go.Am
set_option maxRecDepth 100000
variable {fs : Nat → Option AFunc} {out : Rec} {s : St} {Q : AExit → St → Prop} {b : Nat} {t : Nat → T} {h : AH} {R : St → Prop}
/-- railplan/railplanref30.Propagate -/
def o16_1 : List (Nat × AOper) := (0, ⟨some 6, .mov (.k (.v (.one .nils))), none⟩) ::
   (1, ⟨some 7, .mov (.k (.v (.one .nils))), none⟩) ::
   (2, ⟨some 8, .mov (.k (.v (.one (.int .i64 0)))), none⟩) ::
   []
theorem h16_1 : wS fs out b o16_1 t h R = (wV fs out (b + 0) noT h (.mov (.k (.v (.one .nils)))) fun x6_0 h => wV fs out (b + 1) noT h (.mov (.k (.v (.one .nils)))) fun x7_1 h => wV fs out (b + 2) noT h (.mov (.k (.v (.one (.int .i64 0))))) fun x8_2 h => R ⟨(upd (upd (upd t 6 x6_0) 7 x7_1) 8 x8_2), h⟩) := by kernel_rfl
def c16_1 : ACode := .region (o16_1.map (·.2)) [0, 1, 2] []
theorem s16_1 (h : wS fs out s.h.nx o16_1 s.t ⟨s.h.o, s.h.nx + 3⟩ (Q .normal)) : wC fs out c16_1 s Q := wC_region rfl rfl h
def o16_4_1 : List (Nat × AOper) := (4, ⟨some 24, .not (.t 23), none⟩) ::
   []
theorem h16_4_1 : wS fs out b o16_4_1 t h R = (wV fs out (b + 4) noT h (.not (.k (t 23))) fun x24_0 h => R ⟨(upd t 24 x24_0), h⟩) := by kernel_rfl
def o16_4 : List (Nat × AOper) := (0, ⟨some 20, .mov (.t 0), none⟩) ::
   (1, ⟨some 21, .mov (.t 1), none⟩) ::
   (2, ⟨some 22, .mov (.t 2), none⟩) ::
   (3, ⟨some 23, .call 23 [(.t 20), (.t 21), (.t 22)], none⟩) ::
   o16_4_1
theorem h16_4 : wS fs out b o16_4 t h R = (wV fs out (b + 0) noT h (.mov (.k (t 0))) fun x20_0 h => wV fs out (b + 1) noT h (.mov (.k (t 1))) fun x21_1 h => wV fs out (b + 2) noT h (.mov (.k (t 2))) fun x22_2 h => wV fs out (b + 3) noT h (.call 23 [(.k x20_0), (.k x21_1), (.k x22_2)]) fun x23_3 h => wS fs out b o16_4_1 (upd (upd (upd (upd t 20 x20_0) 21 x21_1) 22 x22_2) 23 x23_3) h R) := by kernel_rfl
def c16_4 : ACode := .region (o16_4.map (·.2)) [0, 1, 2, 3, 4] []
theorem s16_4 (h : wS fs out s.h.nx o16_4 s.t ⟨s.h.o, s.h.nx + 5⟩ (Q .normal)) : wC fs out c16_4 s Q := wC_region rfl rfl h
def o16_7 : List (Nat × AOper) := (0, ⟨some 6, .mov (.k (.v (.one .nils))), none⟩) ::
   (1, ⟨some 7, .mov (.k (.v (.one .nils))), none⟩) ::
   (2, ⟨some 8, .mov (.k (.v (.one (.int .i64 1)))), none⟩) ::
   []
theorem h16_7 : wS fs out b o16_7 t h R = (wV fs out (b + 0) noT h (.mov (.k (.v (.one .nils)))) fun x6_0 h => wV fs out (b + 1) noT h (.mov (.k (.v (.one .nils)))) fun x7_1 h => wV fs out (b + 2) noT h (.mov (.k (.v (.one (.int .i64 1))))) fun x8_2 h => R ⟨(upd (upd (upd t 6 x6_0) 7 x7_1) 8 x8_2), h⟩) := by kernel_rfl
def c16_7 : ACode := .region (o16_7.map (·.2)) [0, 1, 2] []
theorem s16_7 (h : wS fs out s.h.nx o16_7 s.t ⟨s.h.o, s.h.nx + 3⟩ (Q .normal)) : wC fs out c16_7 s Q := wC_region rfl rfl h
def c16_6 : ACode := .seq c16_7 .ret
theorem s16_6 (h : wS fs out s.h.nx o16_7 s.t ⟨s.h.o, s.h.nx + 3⟩ fun s1 => wC fs out .ret s1 Q) : wC fs out c16_6 s Q := wC_seq (s16_7 h)
def c16_5 : ACode := .cond (.t 24) c16_6 .skip [0, 1, 2, 6, 7, 8]
theorem s16_5 (h : onC (s.t 24) (wC fs out c16_6 s fun e s1 => Q e (keepOnly [0, 1, 2, 6, 7, 8] s1)) (Q .normal (keepOnly [0, 1, 2, 6, 7, 8] s))) : wC fs out c16_5 s Q := wC_condC (by first | exact h | (simp only [wC_skip, wC_exit, wC_ret]; exact h))
def c16_3 : ACode := .seq c16_4 c16_5
theorem s16_3 (h : wS fs out s.h.nx o16_4 s.t ⟨s.h.o, s.h.nx + 5⟩ fun s1 => wC fs out c16_5 s1 Q) : wC fs out c16_3 s Q := wC_seq (s16_4 h)
def o16_9 : List (Nat × AOper) := (0, ⟨some 25, .mov (.t 0), none⟩) ::
   (1, ⟨some 26, .len (.t 25), none⟩) ::
   (2, ⟨some 27, .mks 3 1 8 [(.int .i64 0)] (.t 26) (.t 26), none⟩) ::
   (3, ⟨some 9, .mov (.t 27), none⟩) ::
   []
theorem h16_9 : wS fs out b o16_9 t h R = (wV fs out (b + 0) noT h (.mov (.k (t 0))) fun x25_0 h => wV fs out (b + 1) noT h (.len (.k x25_0)) fun x26_1 h => wV fs out (b + 2) noT h (.mks 3 1 8 [(.int .i64 0)] (.k x26_1) (.k x26_1)) fun x27_2 h => wV fs out (b + 3) noT h (.mov (.k x27_2)) fun x9_3 h => R ⟨(upd (upd (upd (upd t 25 x25_0) 26 x26_1) 27 x27_2) 9 x9_3), h⟩) := by kernel_rfl
def c16_9 : ACode := .region (o16_9.map (·.2)) [0, 1, 2, 3] []
theorem s16_9 (h : wS fs out s.h.nx o16_9 s.t ⟨s.h.o, s.h.nx + 4⟩ (Q .normal)) : wC fs out c16_9 s Q := wC_region rfl rfl h
def o16_11 : List (Nat × AOper) := (0, ⟨some 28, .mov (.t 1), none⟩) ::
   (1, ⟨some 29, .len (.t 28), none⟩) ::
   (2, ⟨some 30, .mks 4 1 1 [(.bool false)] (.t 29) (.t 29), none⟩) ::
   (3, ⟨some 10, .mov (.t 30), none⟩) ::
   []
theorem h16_11 : wS fs out b o16_11 t h R = (wV fs out (b + 0) noT h (.mov (.k (t 1))) fun x28_0 h => wV fs out (b + 1) noT h (.len (.k x28_0)) fun x29_1 h => wV fs out (b + 2) noT h (.mks 4 1 1 [(.bool false)] (.k x29_1) (.k x29_1)) fun x30_2 h => wV fs out (b + 3) noT h (.mov (.k x30_2)) fun x10_3 h => R ⟨(upd (upd (upd (upd t 28 x28_0) 29 x29_1) 30 x30_2) 10 x10_3), h⟩) := by kernel_rfl
def c16_11 : ACode := .region (o16_11.map (·.2)) [0, 1, 2, 3] []
theorem s16_11 (h : wS fs out s.h.nx o16_11 s.t ⟨s.h.o, s.h.nx + 4⟩ (Q .normal)) : wC fs out c16_11 s Q := wC_region rfl rfl h
def o16_13_1 : List (Nat × AOper) := (4, ⟨some 31, .mov (.t 35), none⟩) ::
   (5, ⟨some 36, .ext 0 (.t 31), none⟩) ::
   (6, ⟨some 37, .ext 1 (.t 31), none⟩) ::
   (7, ⟨some 11, .mov (.t 36), none⟩) ::
   (8, ⟨some 12, .mov (.t 37), none⟩) ::
   []
theorem h16_13_1 : wS fs out b o16_13_1 t h R = (wV fs out (b + 4) noT h (.mov (.k (t 35))) fun x31_0 h => wV fs out (b + 5) noT h (.ext 0 (.k x31_0)) fun x36_1 h => wV fs out (b + 6) noT h (.ext 1 (.k x31_0)) fun x37_2 h => wV fs out (b + 7) noT h (.mov (.k x36_1)) fun x11_3 h => wV fs out (b + 8) noT h (.mov (.k x37_2)) fun x12_4 h => R ⟨(upd (upd (upd (upd (upd t 31 x31_0) 36 x36_1) 37 x37_2) 11 x11_3) 12 x12_4), h⟩) := by kernel_rfl
def o16_13 : List (Nat × AOper) := (0, ⟨some 32, .mov (.t 0), none⟩) ::
   (1, ⟨some 33, .len (.t 32), none⟩) ::
   (2, ⟨some 34, .mov (.t 1), none⟩) ::
   (3, ⟨some 35, .call 29 [(.t 33), (.t 34)], none⟩) ::
   o16_13_1
theorem h16_13 : wS fs out b o16_13 t h R = (wV fs out (b + 0) noT h (.mov (.k (t 0))) fun x32_0 h => wV fs out (b + 1) noT h (.len (.k x32_0)) fun x33_1 h => wV fs out (b + 2) noT h (.mov (.k (t 1))) fun x34_2 h => wV fs out (b + 3) noT h (.call 29 [(.k x33_1), (.k x34_2)]) fun x35_3 h => wS fs out b o16_13_1 (upd (upd (upd (upd t 32 x32_0) 33 x33_1) 34 x34_2) 35 x35_3) h R) := by kernel_rfl
def c16_13 : ACode := .region (o16_13.map (·.2)) [0, 1, 2, 3, 4, 5, 6, 7, 8] []
theorem s16_13 (h : wS fs out s.h.nx o16_13 s.t ⟨s.h.o, s.h.nx + 9⟩ (Q .normal)) : wC fs out c16_13 s Q := wC_region rfl rfl h
def o16_16 : List (Nat × AOper) := (0, ⟨some 38, .mov (.t 11), none⟩) ::
   (1, ⟨some 39, .len (.t 38), none⟩) ::
   (2, ⟨some 40, .mov (.k (.v (.one (.int .i64 0)))), none⟩) ::
   []
theorem h16_16 : wS fs out b o16_16 t h R = (wV fs out (b + 0) noT h (.mov (.k (t 11))) fun x38_0 h => wV fs out (b + 1) noT h (.len (.k x38_0)) fun x39_1 h => wV fs out (b + 2) noT h (.mov (.k (.v (.one (.int .i64 0))))) fun x40_2 h => R ⟨(upd (upd (upd t 38 x38_0) 39 x39_1) 40 x40_2), h⟩) := by kernel_rfl
def c16_16 : ACode := .region (o16_16.map (·.2)) [0, 1, 2] []
theorem s16_16 (h : wS fs out s.h.nx o16_16 s.t ⟨s.h.o, s.h.nx + 3⟩ (Q .normal)) : wC fs out c16_16 s Q := wC_region rfl rfl h
def o16_20 : List (Nat × AOper) := (0, ⟨some 41, .bin .lss (.t 40) (.t 39), none⟩) ::
   []
theorem h16_20 : wS fs out b o16_20 t h R = (wV fs out (b + 0) noT h (.bin .lss (.k (t 40)) (.k (t 39))) fun x41_0 h => R ⟨(upd t 41 x41_0), h⟩) := by kernel_rfl
def c16_20 : ACode := .region (o16_20.map (·.2)) [0] []
theorem s16_20 (h : wS fs out s.h.nx o16_20 s.t ⟨s.h.o, s.h.nx + 1⟩ (Q .normal)) : wC fs out c16_20 s Q := wC_region rfl rfl h
def c16_22 : ACode := .cond (.t 41) .skip (.exit 0) [0, 1, 2, 9, 10, 38, 39, 40]
theorem s16_22 (h : onC (s.t 41) (Q .normal (keepOnly [0, 1, 2, 9, 10, 38, 39, 40] s)) (Q (.exit 0) (keepOnly [0, 1, 2, 9, 10, 38, 39, 40] s))) : wC fs out c16_22 s Q := wC_condC (by first | exact h | (simp only [wC_skip, wC_exit, wC_ret]; exact h))
def o16_26 : List (Nat × AOper) := (0, ⟨some 42, .iadr 1 (.t 38) (.t 40), none⟩) ::
   (1, ⟨some 43, .load none (.t 42), none⟩) ::
   (2, ⟨some 14, .mov (.t 43), none⟩) ::
   []
theorem h16_26 : wS fs out b o16_26 t h R = (wV fs out (b + 0) noT h (.iadr 1 (.k (t 38)) (.k (t 40))) fun x42_0 h => wV fs out (b + 1) noT h (.load none (.k x42_0)) fun x43_1 h => wV fs out (b + 2) noT h (.mov (.k x43_1)) fun x14_2 h => R ⟨(upd (upd (upd t 42 x42_0) 43 x43_1) 14 x14_2), h⟩) := by kernel_rfl
def c16_26 : ACode := .region (o16_26.map (·.2)) [0, 1, 2] []
theorem s16_26 (h : wS fs out s.h.nx o16_26 s.t ⟨s.h.o, s.h.nx + 3⟩ (Q .normal)) : wC fs out c16_26 s Q := wC_region rfl rfl h
def o16_28 : List (Nat × AOper) := (0, ⟨some 15, .mov (.k (.v (.one (.int .i64 0)))), none⟩) ::
   (1, ⟨some 16, .mov (.k (.v (.one (.bool false)))), none⟩) ::
   []
theorem h16_28 : wS fs out b o16_28 t h R = (wV fs out (b + 0) noT h (.mov (.k (.v (.one (.int .i64 0))))) fun x15_0 h => wV fs out (b + 1) noT h (.mov (.k (.v (.one (.bool false))))) fun x16_1 h => R ⟨(upd (upd t 15 x15_0) 16 x16_1), h⟩) := by kernel_rfl
def c16_28 : ACode := .region (o16_28.map (·.2)) [0, 1] []
theorem s16_28 (h : wS fs out s.h.nx o16_28 s.t ⟨s.h.o, s.h.nx + 2⟩ (Q .normal)) : wC fs out c16_28 s Q := wC_region rfl rfl h
def o16_31 : List (Nat × AOper) := (0, ⟨some 44, .mov (.t 1), none⟩) ::
   (1, ⟨some 45, .len (.t 44), none⟩) ::
   (2, ⟨some 46, .mov (.k (.v (.one (.int .i64 0)))), none⟩) ::
   []
theorem h16_31 : wS fs out b o16_31 t h R = (wV fs out (b + 0) noT h (.mov (.k (t 1))) fun x44_0 h => wV fs out (b + 1) noT h (.len (.k x44_0)) fun x45_1 h => wV fs out (b + 2) noT h (.mov (.k (.v (.one (.int .i64 0))))) fun x46_2 h => R ⟨(upd (upd (upd t 44 x44_0) 45 x45_1) 46 x46_2), h⟩) := by kernel_rfl
def c16_31 : ACode := .region (o16_31.map (·.2)) [0, 1, 2] []
theorem s16_31 (h : wS fs out s.h.nx o16_31 s.t ⟨s.h.o, s.h.nx + 3⟩ (Q .normal)) : wC fs out c16_31 s Q := wC_region rfl rfl h
def o16_35 : List (Nat × AOper) := (0, ⟨some 47, .bin .lss (.t 46) (.t 45), none⟩) ::
   []
theorem h16_35 : wS fs out b o16_35 t h R = (wV fs out (b + 0) noT h (.bin .lss (.k (t 46)) (.k (t 45))) fun x47_0 h => R ⟨(upd t 47 x47_0), h⟩) := by kernel_rfl
def c16_35 : ACode := .region (o16_35.map (·.2)) [0] []
theorem s16_35 (h : wS fs out s.h.nx o16_35 s.t ⟨s.h.o, s.h.nx + 1⟩ (Q .normal)) : wC fs out c16_35 s Q := wC_region rfl rfl h
def c16_37 : ACode := .cond (.t 47) .skip (.exit 2) [0, 1, 2, 9, 10, 14, 15, 16, 38, 39, 40, 44, 45, 46]
theorem s16_37 (h : onC (s.t 47) (Q .normal (keepOnly [0, 1, 2, 9, 10, 14, 15, 16, 38, 39, 40, 44, 45, 46] s)) (Q (.exit 2) (keepOnly [0, 1, 2, 9, 10, 14, 15, 16, 38, 39, 40, 44, 45, 46] s))) : wC fs out c16_37 s Q := wC_condC (by first | exact h | (simp only [wC_skip, wC_exit, wC_ret]; exact h))
def o16_41 : List (Nat × AOper) := (0, ⟨some 48, .mov (.t 46), none⟩) ::
   (1, ⟨some 49, .iadr 4 (.t 44) (.t 46), none⟩) ::
   (2, ⟨some 50, .load (some 4) (.t 49), none⟩) ::
   (3, ⟨some 18, .new 35 [(.int .i64 0), (.int .i64 0), (.int .i64 0), (.int .i64 0)], none⟩) ::
   (4, ⟨some 17, .mov (.t 48), none⟩) ::
   (5, ⟨none, .store 4 (.t 18) (.t 50), none⟩) ::
   []
theorem h16_41 : wS fs out b o16_41 t h R = (wV fs out (b + 0) noT h (.mov (.k (t 46))) fun x48_0 h => wV fs out (b + 1) noT h (.iadr 4 (.k (t 44)) (.k (t 46))) fun x49_1 h => wV fs out (b + 2) noT h (.load (some 4) (.k x49_1)) fun x50_2 h => wV fs out (b + 3) noT h (.new 35 [(.int .i64 0), (.int .i64 0), (.int .i64 0), (.int .i64 0)]) fun x18_3 h => wV fs out (b + 4) noT h (.mov (.k x48_0)) fun x17_4 h => wV fs out (b + 5) noT h (.store 4 (.k x18_3) (.k x50_2)) fun _ h => R ⟨(upd (upd (upd (upd (upd t 48 x48_0) 49 x49_1) 50 x50_2) 18 x18_3) 17 x17_4), h⟩) := by kernel_rfl
def c16_41 : ACode := .region (o16_41.map (·.2)) [0, 1, 2, 3, 4, 5] []
theorem s16_41 (h : wS fs out s.h.nx o16_41 s.t ⟨s.h.o, s.h.nx + 6⟩ (Q .normal)) : wC fs out c16_41 s Q := wC_region rfl rfl h
def o16_44 : List (Nat × AOper) := (0, ⟨some 51, .fadr 1 (.t 18), none⟩) ::
   (1, ⟨some 52, .load none (.t 51), none⟩) ::
   (2, ⟨some 53, .mov (.t 14), none⟩) ::
   (3, ⟨some 54, .bin .neq (.t 52) (.t 53), none⟩) ::
   []
theorem h16_44 : wS fs out b o16_44 t h R = (wV fs out (b + 0) noT h (.fadr 1 (.k (t 18))) fun x51_0 h => wV fs out (b + 1) noT h (.load none (.k x51_0)) fun x52_1 h => wV fs out (b + 2) noT h (.mov (.k (t 14))) fun x53_2 h => wV fs out (b + 3) noT h (.bin .neq (.k x52_1) (.k x53_2)) fun x54_3 h => R ⟨(upd (upd (upd (upd t 51 x51_0) 52 x52_1) 53 x53_2) 54 x54_3), h⟩) := by kernel_rfl
def c16_44 : ACode := .region (o16_44.map (·.2)) [0, 1, 2, 3] []
theorem s16_44 (h : wS fs out s.h.nx o16_44 s.t ⟨s.h.o, s.h.nx + 4⟩ (Q .normal)) : wC fs out c16_44 s Q := wC_region rfl rfl h
def c16_45 : ACode := .cond (.t 54) (.exit 3) .skip [0, 1, 2, 9, 10, 14, 15, 16, 17, 18, 38, 39, 40, 44, 45, 46]
theorem s16_45 (h : onC (s.t 54) (Q (.exit 3) (keepOnly [0, 1, 2, 9, 10, 14, 15, 16, 17, 18, 38, 39, 40, 44, 45, 46] s)) (Q .normal (keepOnly [0, 1, 2, 9, 10, 14, 15, 16, 17, 18, 38, 39, 40, 44, 45, 46] s))) : wC fs out c16_45 s Q := wC_condC (by first | exact h | (simp only [wC_skip, wC_exit, wC_ret]; exact h))
def c16_43 : ACode := .seq c16_44 c16_45
theorem s16_43 (h : wS fs out s.h.nx o16_44 s.t ⟨s.h.o, s.h.nx + 4⟩ fun s1 => wC fs out c16_45 s1 Q) : wC fs out c16_43 s Q := wC_seq (s16_44 h)
def o16_47 : List (Nat × AOper) := (0, ⟨some 55, .mov (.t 9), none⟩) ::
   (1, ⟨some 56, .fadr 0 (.t 18), none⟩) ::
   (2, ⟨some 57, .load none (.t 56), none⟩) ::
   (3, ⟨some 58, .iadr 1 (.t 55) (.t 57), none⟩) ::
   (4, ⟨some 59, .load none (.t 58), none⟩) ::
   (5, ⟨some 60, .fadr 2 (.t 18), none⟩) ::
   (6, ⟨some 61, .load none (.t 60), none⟩) ::
   (7, ⟨some 62, .bin .add (.t 59) (.t 61), none⟩) ::
   (8, ⟨some 19, .mov (.t 62), none⟩) ::
   []
theorem h16_47 : wS fs out b o16_47 t h R = (wV fs out (b + 0) noT h (.mov (.k (t 9))) fun x55_0 h => wV fs out (b + 1) noT h (.fadr 0 (.k (t 18))) fun x56_1 h => wV fs out (b + 2) noT h (.load none (.k x56_1)) fun x57_2 h => wV fs out (b + 3) noT h (.iadr 1 (.k x55_0) (.k x57_2)) fun x58_3 h => wV fs out (b + 4) noT h (.load none (.k x58_3)) fun x59_4 h => wV fs out (b + 5) noT h (.fadr 2 (.k (t 18))) fun x60_5 h => wV fs out (b + 6) noT h (.load none (.k x60_5)) fun x61_6 h => wV fs out (b + 7) noT h (.bin .add (.k x59_4) (.k x61_6)) fun x62_7 h => wV fs out (b + 8) noT h (.mov (.k x62_7)) fun x19_8 h => R ⟨(upd (upd (upd (upd (upd (upd (upd (upd (upd t 55 x55_0) 56 x56_1) 57 x57_2) 58 x58_3) 59 x59_4) 60 x60_5) 61 x61_6) 62 x62_7) 19 x19_8), h⟩) := by kernel_rfl
def c16_47 : ACode := .region (o16_47.map (·.2)) [0, 1, 2, 3, 4, 5, 6, 7, 8] []
theorem s16_47 (h : wS fs out s.h.nx o16_47 s.t ⟨s.h.o, s.h.nx + 9⟩ (Q .normal)) : wC fs out c16_47 s Q := wC_region rfl rfl h
def o16_49_2 : List (Nat × AOper) := (16, ⟨some 79, .pick (.t 68) (.k (.v (.one (.bool true)))) (.t 78), none⟩) ::
   (17, ⟨some 80, .iadr 1 (.t 63) (.t 64), none⟩) ::
   (18, ⟨none, .store 1 (.t 80) (.t 79), none⟩) ::
   []
theorem h16_49_2 : wS fs out b o16_49_2 t h R = (wV fs out (b + 16) noT h (.pick (.k (t 68)) (.k (.v (.one (.bool true)))) (.k (t 78))) fun x79_0 h => wV fs out (b + 17) noT h (.iadr 1 (.k (t 63)) (.k (t 64))) fun x80_1 h => wV fs out (b + 18) noT h (.store 1 (.k x80_1) (.k x79_0)) fun _ h => R ⟨(upd (upd t 79 x79_0) 80 x80_1), h⟩) := by kernel_rfl
def o16_49_1g : List (Nat × AOper) := (6, ⟨some 69, .mov (.t 19), none⟩) ::
   (7, ⟨some 70, .mov (.t 0), none⟩) ::
   (8, ⟨some 71, .mov (.t 14), none⟩) ::
   (9, ⟨some 72, .iadr 2 (.t 70) (.t 71), none⟩) ::
   (10, ⟨some 73, .fadr 0 (.t 72), none⟩) ::
   (11, ⟨some 74, .load none (.t 73), none⟩) ::
   (12, ⟨some 75, .fadr 3 (.t 18), none⟩) ::
   (13, ⟨some 76, .load none (.t 75), none⟩) ::
   (14, ⟨some 77, .bin .add (.t 74) (.t 76), none⟩) ::
   (15, ⟨some 78, .bin .leq (.t 69) (.t 77), none⟩) ::
   []
theorem h16_49_1g : wS fs out b o16_49_1g t h R = (wV fs out (b + 6) noT h (.mov (.k (t 19))) fun x69_0 h => wV fs out (b + 7) noT h (.mov (.k (t 0))) fun x70_1 h => wV fs out (b + 8) noT h (.mov (.k (t 14))) fun x71_2 h => wV fs out (b + 9) noT h (.iadr 2 (.k x70_1) (.k x71_2)) fun x72_3 h => wV fs out (b + 10) noT h (.fadr 0 (.k x72_3)) fun x73_4 h => wV fs out (b + 11) noT h (.load none (.k x73_4)) fun x74_5 h => wV fs out (b + 12) noT h (.fadr 3 (.k (t 18))) fun x75_6 h => wV fs out (b + 13) noT h (.load none (.k x75_6)) fun x76_7 h => wV fs out (b + 14) noT h (.bin .add (.k x74_5) (.k x76_7)) fun x77_8 h => wV fs out (b + 15) noT h (.bin .leq (.k x69_0) (.k x77_8)) fun x78_9 h => R ⟨(upd (upd (upd (upd (upd (upd (upd (upd (upd (upd t 69 x69_0) 70 x70_1) 71 x71_2) 72 x72_3) 73 x73_4) 74 x74_5) 75 x75_6) 76 x76_7) 77 x77_8) 78 x78_9), h⟩) := by kernel_rfl
def o16_49_1 : List (Nat × AOper) := grp 68 false o16_49_1g o16_49_2
theorem w16_49_1 : wS fs out b o16_49_1 t h R = onG (t 68) false (wS fs out b o16_49_1g (upd t 68 (.v (.one (.bool false)))) h fun s => wS fs out b o16_49_2 s.t s.h R) (wS fs out b o16_49_2 (upd (upd (upd (upd (upd (upd (upd (upd (upd (upd (upd t 68 (.v (.one (.bool true)))) 69 (.tup [])) 70 (.tup [])) 71 (.tup [])) 72 (.tup [])) 73 (.tup [])) 74 (.tup [])) 75 (.tup [])) 76 (.tup [])) 77 (.tup [])) 78 (.tup [])) h R) (wS fs out b o16_49_2 (upd (upd (upd (upd (upd (upd (upd (upd (upd (upd t 69 (.tup [])) 70 (.tup [])) 71 (.tup [])) 72 (.tup [])) 73 (.tup [])) 74 (.tup [])) 75 (.tup [])) 76 (.tup [])) 77 (.tup [])) 78 (.tup [])) h R) := wS_grpE rfl
def o16_49 : List (Nat × AOper) := (0, ⟨some 63, .mov (.t 10), none⟩) ::
   (1, ⟨some 64, .mov (.t 17), none⟩) ::
   (2, ⟨some 65, .fadr 3 (.t 18), none⟩) ::
   (3, ⟨some 66, .load none (.t 65), none⟩) ::
   (4, ⟨some 67, .bin .eql (.t 66) (.k (.v (.one (.int .i64 (-1))))), none⟩) ::
   (5, ⟨some 68, .mov (.t 67), none⟩) ::
   o16_49_1
theorem h16_49 : wS fs out b o16_49 t h R = (wV fs out (b + 0) noT h (.mov (.k (t 10))) fun x63_0 h => wV fs out (b + 1) noT h (.mov (.k (t 17))) fun x64_1 h => wV fs out (b + 2) noT h (.fadr 3 (.k (t 18))) fun x65_2 h => wV fs out (b + 3) noT h (.load none (.k x65_2)) fun x66_3 h => wV fs out (b + 4) noT h (.bin .eql (.k x66_3) (.k (.v (.one (.int .i64 (-1)))))) fun x67_4 h => wV fs out (b + 5) noT h (.mov (.k x67_4)) fun x68_5 h => wS fs out b o16_49_1 (upd (upd (upd (upd (upd (upd t 63 x63_0) 64 x64_1) 65 x65_2) 66 x66_3) 67 x67_4) 68 x68_5) h R) := by kernel_rfl
def c16_49 : ACode := .region (o16_49.map (·.2)) [0, 1, 2, 3, 4, 5, 6, 7, 8, 9, 10, 11, 12, 13, 14, 15, 16, 17, 18] []
theorem s16_49 (h : wS fs out s.h.nx o16_49 s.t ⟨s.h.o, s.h.nx + 19⟩ (Q .normal)) : wC fs out c16_49 s Q := wC_region rfl rfl h
def o16_51_4 : List (Nat × AOper) := (12, ⟨some 93, .pick (.t 85) (.t 92) (.k (.v (.one (.bool false)))), none⟩) ::
   []
theorem h16_51_4 : wS fs out b o16_51_4 t h R = (wV fs out (b + 12) noT h (.pick (.k (t 85)) (.k (t 92)) (.k (.v (.one (.bool false))))) fun x93_0 h => R ⟨(upd t 93 x93_0), h⟩) := by kernel_rfl
def o16_51_3g : List (Nat × AOper) := (11, ⟨some 92, .pick (.t 88) (.k (.v (.one (.bool true)))) (.t 91), none⟩) ::
   []
theorem h16_51_3g : wS fs out b o16_51_3g t h R = (wV fs out (b + 11) noT h (.pick (.k (t 88)) (.k (.v (.one (.bool true)))) (.k (t 91))) fun x92_0 h => R ⟨(upd t 92 x92_0), h⟩) := by kernel_rfl
def o16_51_3 : List (Nat × AOper) := grp 85 true o16_51_3g o16_51_4
theorem w16_51_3 : wS fs out b o16_51_3 t h R = onG (t 85) true (wS fs out b o16_51_3g (upd t 85 (.v (.one (.bool true)))) h fun s => wS fs out b o16_51_4 s.t s.h R) (wS fs out b o16_51_4 (upd (upd t 85 (.v (.one (.bool false)))) 92 (.tup [])) h R) (wS fs out b o16_51_4 (upd t 92 (.tup [])) h R) := wS_grpE rfl
def o16_51_2g : List (Nat × AOper) := (8, ⟨some 89, .mov (.t 19), none⟩) ::
   (9, ⟨some 90, .mov (.t 15), none⟩) ::
   (10, ⟨some 91, .bin .gtr (.t 89) (.t 90), none⟩) ::
   []
theorem h16_51_2g : wS fs out b o16_51_2g t h R = (wV fs out (b + 8) noT h (.mov (.k (t 19))) fun x89_0 h => wV fs out (b + 9) noT h (.mov (.k (t 15))) fun x90_1 h => wV fs out (b + 10) noT h (.bin .gtr (.k x89_0) (.k x90_1)) fun x91_2 h => R ⟨(upd (upd (upd t 89 x89_0) 90 x90_1) 91 x91_2), h⟩) := by kernel_rfl
def o16_51_2 : List (Nat × AOper) := grp 88 false o16_51_2g o16_51_3
theorem w16_51_2 : wS fs out b o16_51_2 t h R = onG (t 88) false (wS fs out b o16_51_2g (upd t 88 (.v (.one (.bool false)))) h fun s => wS fs out b o16_51_3 s.t s.h R) (wS fs out b o16_51_3 (upd (upd (upd (upd t 88 (.v (.one (.bool true)))) 89 (.tup [])) 90 (.tup [])) 91 (.tup [])) h R) (wS fs out b o16_51_3 (upd (upd (upd t 89 (.tup [])) 90 (.tup [])) 91 (.tup [])) h R) := wS_grpE rfl
def o16_51_1g : List (Nat × AOper) := (5, ⟨some 86, .mov (.t 16), none⟩) ::
   (6, ⟨some 87, .not (.t 86), none⟩) ::
   (7, ⟨some 88, .mov (.t 87), none⟩) ::
   []
theorem h16_51_1g : wS fs out b o16_51_1g t h R = (wV fs out (b + 5) noT h (.mov (.k (t 16))) fun x86_0 h => wV fs out (b + 6) noT h (.not (.k x86_0)) fun x87_1 h => wV fs out (b + 7) noT h (.mov (.k x87_1)) fun x88_2 h => R ⟨(upd (upd (upd t 86 x86_0) 87 x87_1) 88 x88_2), h⟩) := by kernel_rfl
def o16_51_1 : List (Nat × AOper) := grp 85 true o16_51_1g o16_51_2
theorem w16_51_1 : wS fs out b o16_51_1 t h R = onG (t 85) true (wS fs out b o16_51_1g (upd t 85 (.v (.one (.bool true)))) h fun s => wS fs out b o16_51_2 s.t s.h R) (wS fs out b o16_51_2 (upd (upd (upd (upd t 85 (.v (.one (.bool false)))) 86 (.tup [])) 87 (.tup [])) 88 (.tup [])) h R) (wS fs out b o16_51_2 (upd (upd (upd t 86 (.tup [])) 87 (.tup [])) 88 (.tup [])) h R) := wS_grpE rfl
def o16_51 : List (Nat × AOper) := (0, ⟨some 81, .mov (.t 10), none⟩) ::
   (1, ⟨some 82, .mov (.t 17), none⟩) ::
   (2, ⟨some 83, .iadr 1 (.t 81) (.t 82), none⟩) ::
   (3, ⟨some 84, .load none (.t 83), none⟩) ::
   (4, ⟨some 85, .mov (.t 84), none⟩) ::
   o16_51_1
theorem h16_51 : wS fs out b o16_51 t h R = (wV fs out (b + 0) noT h (.mov (.k (t 10))) fun x81_0 h => wV fs out (b + 1) noT h (.mov (.k (t 17))) fun x82_1 h => wV fs out (b + 2) noT h (.iadr 1 (.k x81_0) (.k x82_1)) fun x83_2 h => wV fs out (b + 3) noT h (.load none (.k x83_2)) fun x84_3 h => wV fs out (b + 4) noT h (.mov (.k x84_3)) fun x85_4 h => wS fs out b o16_51_1 (upd (upd (upd (upd (upd t 81 x81_0) 82 x82_1) 83 x83_2) 84 x84_3) 85 x85_4) h R) := by kernel_rfl
def c16_51 : ACode := .region (o16_51.map (·.2)) [0, 1, 2, 3, 4, 5, 6, 7, 8, 9, 10, 11, 12] []
theorem s16_51 (h : wS fs out s.h.nx o16_51 s.t ⟨s.h.o, s.h.nx + 13⟩ (Q .normal)) : wC fs out c16_51 s Q := wC_region rfl rfl h
def o16_53 : List (Nat × AOper) := (0, ⟨some 94, .mov (.t 19), none⟩) ::
   (1, ⟨some 15, .mov (.t 94), none⟩) ::
   (2, ⟨some 16, .mov (.k (.v (.one (.bool true)))), none⟩) ::
   []
theorem h16_53 : wS fs out b o16_53 t h R = (wV fs out (b + 0) noT h (.mov (.k (t 19))) fun x94_0 h => wV fs out (b + 1) noT h (.mov (.k x94_0)) fun x15_1 h => wV fs out (b + 2) noT h (.mov (.k (.v (.one (.bool true))))) fun x16_2 h => R ⟨(upd (upd (upd t 94 x94_0) 15 x15_1) 16 x16_2), h⟩) := by kernel_rfl
def c16_53 : ACode := .region (o16_53.map (·.2)) [0, 1, 2] []
theorem s16_53 (h : wS fs out s.h.nx o16_53 s.t ⟨s.h.o, s.h.nx + 3⟩ (Q .normal)) : wC fs out c16_53 s Q := wC_region rfl rfl h
def c16_52 : ACode := .cond (.t 93) c16_53 .skip [0, 1, 2, 9, 10, 14, 15, 16, 38, 39, 40, 44, 45, 46]
theorem s16_52 (h : onC (s.t 93) (wC fs out c16_53 s fun e s1 => Q e (keepOnly [0, 1, 2, 9, 10, 14, 15, 16, 38, 39, 40, 44, 45, 46] s1)) (Q .normal (keepOnly [0, 1, 2, 9, 10, 14, 15, 16, 38, 39, 40, 44, 45, 46] s))) : wC fs out c16_52 s Q := wC_condC (by first | exact h | (simp only [wC_skip, wC_exit, wC_ret]; exact h))
def c16_50 : ACode := .seq c16_51 c16_52
theorem s16_50 (h : wS fs out s.h.nx o16_51 s.t ⟨s.h.o, s.h.nx + 13⟩ fun s1 => wC fs out c16_52 s1 Q) : wC fs out c16_50 s Q := wC_seq (s16_51 h)
def c16_48 : ACode := .seq c16_49 c16_50
theorem s16_48 (h : wS fs out s.h.nx o16_49 s.t ⟨s.h.o, s.h.nx + 19⟩ fun s1 => wC fs out c16_50 s1 Q) : wC fs out c16_48 s Q := wC_seq (s16_49 h)
def c16_46 : ACode := .seq c16_47 c16_48
theorem s16_46 (h : wS fs out s.h.nx o16_47 s.t ⟨s.h.o, s.h.nx + 9⟩ fun s1 => wC fs out c16_48 s1 Q) : wC fs out c16_46 s Q := wC_seq (s16_47 h)
def c16_42 : ACode := .seq c16_43 c16_46
theorem s16_42 (h : wC fs out c16_43 s fun e s1 => match e with | .normal => wC fs out c16_46 s1 Q | e => Q e s1) : wC fs out c16_42 s Q := wC_seq h
def c16_40 : ACode := .seq c16_41 c16_42
theorem s16_40 (h : wS fs out s.h.nx o16_41 s.t ⟨s.h.o, s.h.nx + 6⟩ fun s1 => wC fs out c16_42 s1 Q) : wC fs out c16_40 s Q := wC_seq (s16_41 h)
def c16_39 : ACode := .block 3 c16_40
theorem s16_39 (h : wC fs out c16_40 s fun e s1 => Q (if e = .exit 3 then .normal else e) s1) : wC fs out c16_39 s Q := wC_block h
def o16_54 : List (Nat × AOper) := (0, ⟨some 95, .bin .add (.t 46) (.k (.v (.one (.int .i64 1)))), none⟩) ::
   (1, ⟨some 46, .mov (.t 95), none⟩) ::
   []
theorem h16_54 : wS fs out b o16_54 t h R = (wV fs out (b + 0) noT h (.bin .add (.k (t 46)) (.k (.v (.one (.int .i64 1))))) fun x95_0 h => wV fs out (b + 1) noT h (.mov (.k x95_0)) fun x46_1 h => R ⟨(upd (upd t 95 x95_0) 46 x46_1), h⟩) := by kernel_rfl
def c16_54 : ACode := .region (o16_54.map (·.2)) [0, 1] []
theorem s16_54 (h : wS fs out s.h.nx o16_54 s.t ⟨s.h.o, s.h.nx + 2⟩ (Q .normal)) : wC fs out c16_54 s Q := wC_region rfl rfl h
def c16_38 : ACode := .seq c16_39 c16_54
theorem s16_38 (h : wC fs out c16_39 s fun e s1 => match e with | .normal => wC fs out c16_54 s1 Q | e => Q e s1) : wC fs out c16_38 s Q := wC_seq h
def c16_36 : ACode := .seq c16_37 c16_38
theorem s16_36 (h : onC (s.t 47) (wC fs out c16_38 (keepOnly [0, 1, 2, 9, 10, 14, 15, 16, 38, 39, 40, 44, 45, 46] s) Q) (Q (.exit 2) (keepOnly [0, 1, 2, 9, 10, 14, 15, 16, 38, 39, 40, 44, 45, 46] s))) : wC fs out c16_36 s Q := wC_seq (s16_37 h)
def c16_34 : ACode := .seq c16_35 c16_36
theorem s16_34 (h : wS fs out s.h.nx o16_35 s.t ⟨s.h.o, s.h.nx + 1⟩ fun s1 => wC fs out c16_36 s1 Q) : wC fs out c16_34 s Q := wC_seq (s16_35 h)
def c16_33 : ACode := .loop [0, 1, 2, 9, 10, 14, 15, 16, 38, 39, 40, 44, 45, 46] c16_34
theorem s16_33 (I : Nat → St → Prop) (n : Nat) (h0 : I n (keepOnly [0, 1, 2, 9, 10, 14, 15, 16, 38, 39, 40, 44, 45, 46] s)) (step : ∀ m s (Q' : AExit → St → Prop), I m s → (∀ m' s1, m' < m → I m' (keepOnly [0, 1, 2, 9, 10, 14, 15, 16, 38, 39, 40, 44, 45, 46] s1) → Q' .normal s1) → (∀ i s1, Q (.exit i) s1 → Q' (.exit i) s1) → (∀ s1, Q .ret s1 → Q' .ret s1) → wC fs out c16_34 s Q') : wC fs out c16_33 s Q := wC_loopQ I n h0 step
def c16_32 : ACode := .block 2 c16_33
theorem s16_32 (h : wC fs out c16_33 s fun e s1 => Q (if e = .exit 2 then .normal else e) s1) : wC fs out c16_32 s Q := wC_block h
def c16_30 : ACode := .seq c16_31 c16_32
theorem s16_30 (h : wS fs out s.h.nx o16_31 s.t ⟨s.h.o, s.h.nx + 3⟩ fun s1 => wC fs out c16_32 s1 Q) : wC fs out c16_30 s Q := wC_seq (s16_31 h)
def o16_57_2 : List (Nat × AOper) := (8, ⟨some 104, .pick (.t 101) (.k (.v (.one (.bool true)))) (.t 103), none⟩) ::
   []
theorem h16_57_2 : wS fs out b o16_57_2 t h R = (wV fs out (b + 8) noT h (.pick (.k (t 101)) (.k (.v (.one (.bool true)))) (.k (t 103))) fun x104_0 h => R ⟨(upd t 104 x104_0), h⟩) := by kernel_rfl
def o16_57_1g : List (Nat × AOper) := (6, ⟨some 102, .mov (.t 16), none⟩) ::
   (7, ⟨some 103, .not (.t 102), none⟩) ::
   []
theorem h16_57_1g : wS fs out b o16_57_1g t h R = (wV fs out (b + 6) noT h (.mov (.k (t 16))) fun x102_0 h => wV fs out (b + 7) noT h (.not (.k x102_0)) fun x103_1 h => R ⟨(upd (upd t 102 x102_0) 103 x103_1), h⟩) := by kernel_rfl
def o16_57_1 : List (Nat × AOper) := grp 101 false o16_57_1g o16_57_2
theorem w16_57_1 : wS fs out b o16_57_1 t h R = onG (t 101) false (wS fs out b o16_57_1g (upd t 101 (.v (.one (.bool false)))) h fun s => wS fs out b o16_57_2 s.t s.h R) (wS fs out b o16_57_2 (upd (upd (upd t 101 (.v (.one (.bool true)))) 102 (.tup [])) 103 (.tup [])) h R) (wS fs out b o16_57_2 (upd (upd t 102 (.tup [])) 103 (.tup [])) h R) := wS_grpE rfl
def o16_57 : List (Nat × AOper) := (0, ⟨some 96, .mov (.t 0), none⟩) ::
   (1, ⟨some 97, .mov (.t 14), none⟩) ::
   (2, ⟨some 98, .iadr 2 (.t 96) (.t 97), none⟩) ::
   (3, ⟨some 99, .fadr 1 (.t 98), none⟩) ::
   (4, ⟨some 100, .load none (.t 99), none⟩) ::
   (5, ⟨some 101, .mov (.t 100), none⟩) ::
   o16_57_1
theorem h16_57 : wS fs out b o16_57 t h R = (wV fs out (b + 0) noT h (.mov (.k (t 0))) fun x96_0 h => wV fs out (b + 1) noT h (.mov (.k (t 14))) fun x97_1 h => wV fs out (b + 2) noT h (.iadr 2 (.k x96_0) (.k x97_1)) fun x98_2 h => wV fs out (b + 3) noT h (.fadr 1 (.k x98_2)) fun x99_3 h => wV fs out (b + 4) noT h (.load none (.k x99_3)) fun x100_4 h => wV fs out (b + 5) noT h (.mov (.k x100_4)) fun x101_5 h => wS fs out b o16_57_1 (upd (upd (upd (upd (upd (upd t 96 x96_0) 97 x97_1) 98 x98_2) 99 x99_3) 100 x100_4) 101 x101_5) h R) := by kernel_rfl
def c16_57 : ACode := .region (o16_57.map (·.2)) [0, 1, 2, 3, 4, 5, 6, 7, 8] []
theorem s16_57 (h : wS fs out s.h.nx o16_57 s.t ⟨s.h.o, s.h.nx + 9⟩ (Q .normal)) : wC fs out c16_57 s Q := wC_region rfl rfl h
def o16_59 : List (Nat × AOper) := (0, ⟨some 105, .mov (.t 15), none⟩) ::
   (1, ⟨some 106, .mov (.t 0), none⟩) ::
   (2, ⟨some 107, .mov (.t 14), none⟩) ::
   (3, ⟨some 108, .iadr 2 (.t 106) (.t 107), none⟩) ::
   (4, ⟨some 109, .fadr 0 (.t 108), none⟩) ::
   (5, ⟨some 110, .load none (.t 109), none⟩) ::
   (6, ⟨some 111, .max2 (.t 105) (.t 110), none⟩) ::
   (7, ⟨some 15, .mov (.t 111), none⟩) ::
   []
theorem h16_59 : wS fs out b o16_59 t h R = (wV fs out (b + 0) noT h (.mov (.k (t 15))) fun x105_0 h => wV fs out (b + 1) noT h (.mov (.k (t 0))) fun x106_1 h => wV fs out (b + 2) noT h (.mov (.k (t 14))) fun x107_2 h => wV fs out (b + 3) noT h (.iadr 2 (.k x106_1) (.k x107_2)) fun x108_3 h => wV fs out (b + 4) noT h (.fadr 0 (.k x108_3)) fun x109_4 h => wV fs out (b + 5) noT h (.load none (.k x109_4)) fun x110_5 h => wV fs out (b + 6) noT h (.max2 (.k x105_0) (.k x110_5)) fun x111_6 h => wV fs out (b + 7) noT h (.mov (.k x111_6)) fun x15_7 h => R ⟨(upd (upd (upd (upd (upd (upd (upd (upd t 105 x105_0) 106 x106_1) 107 x107_2) 108 x108_3) 109 x109_4) 110 x110_5) 111 x111_6) 15 x15_7), h⟩) := by kernel_rfl
def c16_59 : ACode := .region (o16_59.map (·.2)) [0, 1, 2, 3, 4, 5, 6, 7] []
theorem s16_59 (h : wS fs out s.h.nx o16_59 s.t ⟨s.h.o, s.h.nx + 8⟩ (Q .normal)) : wC fs out c16_59 s Q := wC_region rfl rfl h
def c16_58 : ACode := .cond (.t 104) c16_59 .skip [0, 1, 2, 9, 10, 14, 15, 38, 39, 40]
theorem s16_58 (h : onC (s.t 104) (wC fs out c16_59 s fun e s1 => Q e (keepOnly [0, 1, 2, 9, 10, 14, 15, 38, 39, 40] s1)) (Q .normal (keepOnly [0, 1, 2, 9, 10, 14, 15, 38, 39, 40] s))) : wC fs out c16_58 s Q := wC_condC (by first | exact h | (simp only [wC_skip, wC_exit, wC_ret]; exact h))
def c16_56 : ACode := .seq c16_57 c16_58
theorem s16_56 (h : wS fs out s.h.nx o16_57 s.t ⟨s.h.o, s.h.nx + 9⟩ fun s1 => wC fs out c16_58 s1 Q) : wC fs out c16_56 s Q := wC_seq (s16_57 h)
def o16_60_1 : List (Nat × AOper) := (6, ⟨some 118, .bin .add (.t 114) (.t 117), none⟩) ::
   (7, ⟨some 119, .iadr 1 (.t 112) (.t 113), none⟩) ::
   (8, ⟨none, .store 1 (.t 119) (.t 118), none⟩) ::
   []
theorem h16_60_1 : wS fs out b o16_60_1 t h R = (wV fs out (b + 6) noT h (.bin .add (.k (t 114)) (.k (t 117))) fun x118_0 h => wV fs out (b + 7) noT h (.iadr 1 (.k (t 112)) (.k (t 113))) fun x119_1 h => wV fs out (b + 8) noT h (.store 1 (.k x119_1) (.k x118_0)) fun _ h => R ⟨(upd (upd t 118 x118_0) 119 x119_1), h⟩) := by kernel_rfl
def o16_60 : List (Nat × AOper) := (0, ⟨some 112, .mov (.t 9), none⟩) ::
   (1, ⟨some 113, .mov (.t 14), none⟩) ::
   (2, ⟨some 114, .mov (.t 15), none⟩) ::
   (3, ⟨some 115, .mov (.t 2), none⟩) ::
   (4, ⟨some 116, .mov (.t 14), none⟩) ::
   (5, ⟨some 117, .call 30 [(.t 115), (.t 116)], none⟩) ::
   o16_60_1
theorem h16_60 : wS fs out b o16_60 t h R = (wV fs out (b + 0) noT h (.mov (.k (t 9))) fun x112_0 h => wV fs out (b + 1) noT h (.mov (.k (t 14))) fun x113_1 h => wV fs out (b + 2) noT h (.mov (.k (t 15))) fun x114_2 h => wV fs out (b + 3) noT h (.mov (.k (t 2))) fun x115_3 h => wV fs out (b + 4) noT h (.mov (.k (t 14))) fun x116_4 h => wV fs out (b + 5) noT h (.call 30 [(.k x115_3), (.k x116_4)]) fun x117_5 h => wS fs out b o16_60_1 (upd (upd (upd (upd (upd (upd t 112 x112_0) 113 x113_1) 114 x114_2) 115 x115_3) 116 x116_4) 117 x117_5) h R) := by kernel_rfl
def c16_60 : ACode := .region (o16_60.map (·.2)) [0, 1, 2, 3, 4, 5, 6, 7, 8] []
theorem s16_60 (h : wS fs out s.h.nx o16_60 s.t ⟨s.h.o, s.h.nx + 9⟩ (Q .normal)) : wC fs out c16_60 s Q := wC_region rfl rfl h
def c16_55 : ACode := .seq c16_56 c16_60
theorem s16_55 (h : wC fs out c16_56 s fun e s1 => match e with | .normal => wC fs out c16_60 s1 Q | e => Q e s1) : wC fs out c16_55 s Q := wC_seq h
def c16_29 : ACode := .seq c16_30 c16_55
theorem s16_29 (h : wC fs out c16_30 s fun e s1 => match e with | .normal => wC fs out c16_55 s1 Q | e => Q e s1) : wC fs out c16_29 s Q := wC_seq h
def c16_27 : ACode := .seq c16_28 c16_29
theorem s16_27 (h : wS fs out s.h.nx o16_28 s.t ⟨s.h.o, s.h.nx + 2⟩ fun s1 => wC fs out c16_29 s1 Q) : wC fs out c16_27 s Q := wC_seq (s16_28 h)
def c16_25 : ACode := .seq c16_26 c16_27
theorem s16_25 (h : wS fs out s.h.nx o16_26 s.t ⟨s.h.o, s.h.nx + 3⟩ fun s1 => wC fs out c16_27 s1 Q) : wC fs out c16_25 s Q := wC_seq (s16_26 h)
def c16_24 : ACode := .block 1 c16_25
theorem s16_24 (h : wC fs out c16_25 s fun e s1 => Q (if e = .exit 1 then .normal else e) s1) : wC fs out c16_24 s Q := wC_block h
def o16_61 : List (Nat × AOper) := (0, ⟨some 120, .bin .add (.t 40) (.k (.v (.one (.int .i64 1)))), none⟩) ::
   (1, ⟨some 40, .mov (.t 120), none⟩) ::
   []
theorem h16_61 : wS fs out b o16_61 t h R = (wV fs out (b + 0) noT h (.bin .add (.k (t 40)) (.k (.v (.one (.int .i64 1))))) fun x120_0 h => wV fs out (b + 1) noT h (.mov (.k x120_0)) fun x40_1 h => R ⟨(upd (upd t 120 x120_0) 40 x40_1), h⟩) := by kernel_rfl
def c16_61 : ACode := .region (o16_61.map (·.2)) [0, 1] []
theorem s16_61 (h : wS fs out s.h.nx o16_61 s.t ⟨s.h.o, s.h.nx + 2⟩ (Q .normal)) : wC fs out c16_61 s Q := wC_region rfl rfl h
def c16_23 : ACode := .seq c16_24 c16_61
theorem s16_23 (h : wC fs out c16_24 s fun e s1 => match e with | .normal => wC fs out c16_61 s1 Q | e => Q e s1) : wC fs out c16_23 s Q := wC_seq h
def c16_21 : ACode := .seq c16_22 c16_23
theorem s16_21 (h : onC (s.t 41) (wC fs out c16_23 (keepOnly [0, 1, 2, 9, 10, 38, 39, 40] s) Q) (Q (.exit 0) (keepOnly [0, 1, 2, 9, 10, 38, 39, 40] s))) : wC fs out c16_21 s Q := wC_seq (s16_22 h)
def c16_19 : ACode := .seq c16_20 c16_21
theorem s16_19 (h : wS fs out s.h.nx o16_20 s.t ⟨s.h.o, s.h.nx + 1⟩ fun s1 => wC fs out c16_21 s1 Q) : wC fs out c16_19 s Q := wC_seq (s16_20 h)
def c16_18 : ACode := .loop [0, 1, 2, 9, 10, 38, 39, 40] c16_19
theorem s16_18 (I : Nat → St → Prop) (n : Nat) (h0 : I n (keepOnly [0, 1, 2, 9, 10, 38, 39, 40] s)) (step : ∀ m s (Q' : AExit → St → Prop), I m s → (∀ m' s1, m' < m → I m' (keepOnly [0, 1, 2, 9, 10, 38, 39, 40] s1) → Q' .normal s1) → (∀ i s1, Q (.exit i) s1 → Q' (.exit i) s1) → (∀ s1, Q .ret s1 → Q' .ret s1) → wC fs out c16_19 s Q') : wC fs out c16_18 s Q := wC_loopQ I n h0 step
def c16_17 : ACode := .block 0 c16_18
theorem s16_17 (h : wC fs out c16_18 s fun e s1 => Q (if e = .exit 0 then .normal else e) s1) : wC fs out c16_17 s Q := wC_block h
def c16_15 : ACode := .seq c16_16 c16_17
theorem s16_15 (h : wS fs out s.h.nx o16_16 s.t ⟨s.h.o, s.h.nx + 3⟩ fun s1 => wC fs out c16_17 s1 Q) : wC fs out c16_15 s Q := wC_seq (s16_16 h)
def o16_63 : List (Nat × AOper) := (0, ⟨some 121, .mov (.t 9), none⟩) ::
   (1, ⟨some 122, .mov (.t 10), none⟩) ::
   (2, ⟨some 6, .mov (.t 121), none⟩) ::
   (3, ⟨some 7, .mov (.t 122), none⟩) ::
   (4, ⟨some 8, .mov (.k (.v (.one (.int .i64 0)))), none⟩) ::
   []
theorem h16_63 : wS fs out b o16_63 t h R = (wV fs out (b + 0) noT h (.mov (.k (t 9))) fun x121_0 h => wV fs out (b + 1) noT h (.mov (.k (t 10))) fun x122_1 h => wV fs out (b + 2) noT h (.mov (.k x121_0)) fun x6_2 h => wV fs out (b + 3) noT h (.mov (.k x122_1)) fun x7_3 h => wV fs out (b + 4) noT h (.mov (.k (.v (.one (.int .i64 0))))) fun x8_4 h => R ⟨(upd (upd (upd (upd (upd t 121 x121_0) 122 x122_1) 6 x6_2) 7 x7_3) 8 x8_4), h⟩) := by kernel_rfl
def c16_63 : ACode := .region (o16_63.map (·.2)) [0, 1, 2, 3, 4] []
theorem s16_63 (h : wS fs out s.h.nx o16_63 s.t ⟨s.h.o, s.h.nx + 5⟩ (Q .normal)) : wC fs out c16_63 s Q := wC_region rfl rfl h
def c16_62 : ACode := .seq c16_63 .ret
theorem s16_62 (h : wS fs out s.h.nx o16_63 s.t ⟨s.h.o, s.h.nx + 5⟩ fun s1 => wC fs out .ret s1 Q) : wC fs out c16_62 s Q := wC_seq (s16_63 h)
def c16_14 : ACode := .seq c16_15 c16_62
theorem s16_14 (h : wC fs out c16_15 s fun e s1 => match e with | .normal => wC fs out c16_62 s1 Q | e => Q e s1) : wC fs out c16_14 s Q := wC_seq h
def c16_12 : ACode := .seq c16_13 c16_14
theorem s16_12 (h : wS fs out s.h.nx o16_13 s.t ⟨s.h.o, s.h.nx + 9⟩ fun s1 => wC fs out c16_14 s1 Q) : wC fs out c16_12 s Q := wC_seq (s16_13 h)
def c16_10 : ACode := .seq c16_11 c16_12
theorem s16_10 (h : wS fs out s.h.nx o16_11 s.t ⟨s.h.o, s.h.nx + 4⟩ fun s1 => wC fs out c16_12 s1 Q) : wC fs out c16_10 s Q := wC_seq (s16_11 h)
def c16_8 : ACode := .seq c16_9 c16_10
theorem s16_8 (h : wS fs out s.h.nx o16_9 s.t ⟨s.h.o, s.h.nx + 4⟩ fun s1 => wC fs out c16_10 s1 Q) : wC fs out c16_8 s Q := wC_seq (s16_9 h)
def c16_2 : ACode := .seq c16_3 c16_8
theorem s16_2 (h : wC fs out c16_3 s fun e s1 => match e with | .normal => wC fs out c16_8 s1 Q | e => Q e s1) : wC fs out c16_2 s Q := wC_seq h
def c16_0 : ACode := .seq c16_1 c16_2
theorem s16_0 (h : wS fs out s.h.nx o16_1 s.t ⟨s.h.o, s.h.nx + 3⟩ fun s1 => wC fs out c16_2 s1 Q) : wC fs out c16_0 s Q := wC_seq (s16_1 h)
def a16 : AFunc := ⟨3, [6, 7, 8], none, c16_0⟩
theorem t16 : tell Try.prog Try.f16 [([0, 1, 2, 6, 7, 8], [], []), ([0, 1, 2, 9, 10, 38, 39, 40], [], []), ([0, 1, 2, 9, 10, 38, 39, 40], [], []), ([0, 1, 2, 9, 10, 14, 15, 16, 38, 39, 40, 44, 45, 46], [], []), ([0, 1, 2, 9, 10, 14, 15, 16, 38, 39, 40, 44, 45, 46], [], []), ([0, 1, 2, 9, 10, 14, 15, 16, 17, 18, 38, 39, 40, 44, 45, 46], [], []), ([0, 1, 2, 3, 4, 5, 6, 7, 8], [], [0, 0, 2, 7, 15, 0, 32, 127, 255]), ([0, 1, 2, 3, 4, 5, 6, 7, 8, 9, 10, 11, 12, 13, 14, 15, 16, 17, 18], [], [0, 0, 0, 4, 12, 28, 60, 60, 60, 444, 956, 1980, 60, 4156, 16316, 32764, 65532, 131071, 262143]), ([0, 1, 2, 9, 10, 14, 15, 16, 38, 39, 40, 44, 45, 46], [], []), ([0, 1, 2, 9, 10, 14, 15, 38, 39, 40], [], [])] = some a16 := by kernel_rfl
theorem ok16 : FuncOk Try.prog 16 a16 := tell_ok Try.func16 t16

/-- railplan/delay.Lateness -/
def o17_1 : List (Nat × AOper) := (0, ⟨some 4, .mov (.k (.v (.one .nils))), none⟩) ::
   (1, ⟨some 5, .mov (.k (.v (.one (.int .i64 0)))), none⟩) ::
   []
theorem h17_1 : wS fs out b o17_1 t h R = (wV fs out (b + 0) noT h (.mov (.k (.v (.one .nils)))) fun x4_0 h => wV fs out (b + 1) noT h (.mov (.k (.v (.one (.int .i64 0))))) fun x5_1 h => R ⟨(upd (upd t 4 x4_0) 5 x5_1), h⟩) := by kernel_rfl
def c17_1 : ACode := .region (o17_1.map (·.2)) [0, 1] []
theorem s17_1 (h : wS fs out s.h.nx o17_1 s.t ⟨s.h.o, s.h.nx + 2⟩ (Q .normal)) : wC fs out c17_1 s Q := wC_region rfl rfl h
def o17_4 : List (Nat × AOper) := (0, ⟨some 9, .mov (.t 1), none⟩) ::
   (1, ⟨some 10, .len (.t 9), none⟩) ::
   (2, ⟨some 11, .mov (.t 0), none⟩) ::
   (3, ⟨some 12, .len (.t 11), none⟩) ::
   (4, ⟨some 13, .bin .neq (.t 10) (.t 12), none⟩) ::
   []
theorem h17_4 : wS fs out b o17_4 t h R = (wV fs out (b + 0) noT h (.mov (.k (t 1))) fun x9_0 h => wV fs out (b + 1) noT h (.len (.k x9_0)) fun x10_1 h => wV fs out (b + 2) noT h (.mov (.k (t 0))) fun x11_2 h => wV fs out (b + 3) noT h (.len (.k x11_2)) fun x12_3 h => wV fs out (b + 4) noT h (.bin .neq (.k x10_1) (.k x12_3)) fun x13_4 h => R ⟨(upd (upd (upd (upd (upd t 9 x9_0) 10 x10_1) 11 x11_2) 12 x12_3) 13 x13_4), h⟩) := by kernel_rfl
def c17_4 : ACode := .region (o17_4.map (·.2)) [0, 1, 2, 3, 4] []
theorem s17_4 (h : wS fs out s.h.nx o17_4 s.t ⟨s.h.o, s.h.nx + 5⟩ (Q .normal)) : wC fs out c17_4 s Q := wC_region rfl rfl h
def o17_7 : List (Nat × AOper) := (0, ⟨some 4, .mov (.k (.v (.one .nils))), none⟩) ::
   (1, ⟨some 5, .mov (.k (.v (.one (.int .i64 1)))), none⟩) ::
   []
theorem h17_7 : wS fs out b o17_7 t h R = (wV fs out (b + 0) noT h (.mov (.k (.v (.one .nils)))) fun x4_0 h => wV fs out (b + 1) noT h (.mov (.k (.v (.one (.int .i64 1))))) fun x5_1 h => R ⟨(upd (upd t 4 x4_0) 5 x5_1), h⟩) := by kernel_rfl
def c17_7 : ACode := .region (o17_7.map (·.2)) [0, 1] []
theorem s17_7 (h : wS fs out s.h.nx o17_7 s.t ⟨s.h.o, s.h.nx + 2⟩ (Q .normal)) : wC fs out c17_7 s Q := wC_region rfl rfl h
def c17_6 : ACode := .seq c17_7 .ret
theorem s17_6 (h : wS fs out s.h.nx o17_7 s.t ⟨s.h.o, s.h.nx + 2⟩ fun s1 => wC fs out .ret s1 Q) : wC fs out c17_6 s Q := wC_seq (s17_7 h)
def c17_5 : ACode := .cond (.t 13) c17_6 .skip [0, 1, 4, 5]
theorem s17_5 (h : onC (s.t 13) (wC fs out c17_6 s fun e s1 => Q e (keepOnly [0, 1, 4, 5] s1)) (Q .normal (keepOnly [0, 1, 4, 5] s))) : wC fs out c17_5 s Q := wC_condC (by first | exact h | (simp only [wC_skip, wC_exit, wC_ret]; exact h))
def c17_3 : ACode := .seq c17_4 c17_5
theorem s17_3 (h : wS fs out s.h.nx o17_4 s.t ⟨s.h.o, s.h.nx + 5⟩ fun s1 => wC fs out c17_5 s1 Q) : wC fs out c17_3 s Q := wC_seq (s17_4 h)
def o17_9 : List (Nat × AOper) := (0, ⟨some 14, .mov (.t 0), none⟩) ::
   (1, ⟨some 15, .len (.t 14), none⟩) ::
   (2, ⟨some 16, .mks 3 1 8 [(.int .i64 0)] (.t 15) (.t 15), none⟩) ::
   (3, ⟨some 6, .mov (.t 16), none⟩) ::
   []
theorem h17_9 : wS fs out b o17_9 t h R = (wV fs out (b + 0) noT h (.mov (.k (t 0))) fun x14_0 h => wV fs out (b + 1) noT h (.len (.k x14_0)) fun x15_1 h => wV fs out (b + 2) noT h (.mks 3 1 8 [(.int .i64 0)] (.k x15_1) (.k x15_1)) fun x16_2 h => wV fs out (b + 3) noT h (.mov (.k x16_2)) fun x6_3 h => R ⟨(upd (upd (upd (upd t 14 x14_0) 15 x15_1) 16 x16_2) 6 x6_3), h⟩) := by kernel_rfl
def c17_9 : ACode := .region (o17_9.map (·.2)) [0, 1, 2, 3] []
theorem s17_9 (h : wS fs out s.h.nx o17_9 s.t ⟨s.h.o, s.h.nx + 4⟩ (Q .normal)) : wC fs out c17_9 s Q := wC_region rfl rfl h
def o17_12 : List (Nat × AOper) := (0, ⟨some 17, .mov (.t 1), none⟩) ::
   (1, ⟨some 18, .len (.t 17), none⟩) ::
   (2, ⟨some 19, .mov (.k (.v (.one (.int .i64 0)))), none⟩) ::
   []
theorem h17_12 : wS fs out b o17_12 t h R = (wV fs out (b + 0) noT h (.mov (.k (t 1))) fun x17_0 h => wV fs out (b + 1) noT h (.len (.k x17_0)) fun x18_1 h => wV fs out (b + 2) noT h (.mov (.k (.v (.one (.int .i64 0))))) fun x19_2 h => R ⟨(upd (upd (upd t 17 x17_0) 18 x18_1) 19 x19_2), h⟩) := by kernel_rfl
def c17_12 : ACode := .region (o17_12.map (·.2)) [0, 1, 2] []
theorem s17_12 (h : wS fs out s.h.nx o17_12 s.t ⟨s.h.o, s.h.nx + 3⟩ (Q .normal)) : wC fs out c17_12 s Q := wC_region rfl rfl h
def o17_16 : List (Nat × AOper) := (0, ⟨some 20, .bin .lss (.t 19) (.t 18), none⟩) ::
   []
theorem h17_16 : wS fs out b o17_16 t h R = (wV fs out (b + 0) noT h (.bin .lss (.k (t 19)) (.k (t 18))) fun x20_0 h => R ⟨(upd t 20 x20_0), h⟩) := by kernel_rfl
def c17_16 : ACode := .region (o17_16.map (·.2)) [0] []
theorem s17_16 (h : wS fs out s.h.nx o17_16 s.t ⟨s.h.o, s.h.nx + 1⟩ (Q .normal)) : wC fs out c17_16 s Q := wC_region rfl rfl h
def c17_18 : ACode := .cond (.t 20) .skip (.exit 0) [0, 6, 17, 18, 19]
theorem s17_18 (h : onC (s.t 20) (Q .normal (keepOnly [0, 6, 17, 18, 19] s)) (Q (.exit 0) (keepOnly [0, 6, 17, 18, 19] s))) : wC fs out c17_18 s Q := wC_condC (by first | exact h | (simp only [wC_skip, wC_exit, wC_ret]; exact h))
def o17_22 : List (Nat × AOper) := (0, ⟨some 21, .mov (.t 19), none⟩) ::
   (1, ⟨some 22, .iadr 1 (.t 17) (.t 19), none⟩) ::
   (2, ⟨some 23, .load none (.t 22), none⟩) ::
   (3, ⟨some 7, .mov (.t 21), none⟩) ::
   (4, ⟨some 8, .mov (.t 23), none⟩) ::
   []
theorem h17_22 : wS fs out b o17_22 t h R = (wV fs out (b + 0) noT h (.mov (.k (t 19))) fun x21_0 h => wV fs out (b + 1) noT h (.iadr 1 (.k (t 17)) (.k (t 19))) fun x22_1 h => wV fs out (b + 2) noT h (.load none (.k x22_1)) fun x23_2 h => wV fs out (b + 3) noT h (.mov (.k x21_0)) fun x7_3 h => wV fs out (b + 4) noT h (.mov (.k x23_2)) fun x8_4 h => R ⟨(upd (upd (upd (upd (upd t 21 x21_0) 22 x22_1) 23 x23_2) 7 x7_3) 8 x8_4), h⟩) := by kernel_rfl
def c17_22 : ACode := .region (o17_22.map (·.2)) [0, 1, 2, 3, 4] []
theorem s17_22 (h : wS fs out s.h.nx o17_22 s.t ⟨s.h.o, s.h.nx + 5⟩ (Q .normal)) : wC fs out c17_22 s Q := wC_region rfl rfl h
def o17_23_1 : List (Nat × AOper) := (10, ⟨none, .store 1 (.t 33) (.t 32), none⟩) ::
   []
theorem h17_23_1 : wS fs out b o17_23_1 t h R = (wV fs out (b + 10) noT h (.store 1 (.k (t 33)) (.k (t 32))) fun _ h => R ⟨t, h⟩) := by kernel_rfl
def o17_23 : List (Nat × AOper) := (0, ⟨some 24, .mov (.t 6), none⟩) ::
   (1, ⟨some 25, .mov (.t 7), none⟩) ::
   (2, ⟨some 26, .mov (.t 8), none⟩) ::
   (3, ⟨some 27, .mov (.t 0), none⟩) ::
   (4, ⟨some 28, .mov (.t 7), none⟩) ::
   (5, ⟨some 29, .iadr 2 (.t 27) (.t 28), none⟩) ::
   (6, ⟨some 30, .fadr 0 (.t 29), none⟩) ::
   (7, ⟨some 31, .load none (.t 30), none⟩) ::
   (8, ⟨some 32, .bin .sub (.t 26) (.t 31), none⟩) ::
   (9, ⟨some 33, .iadr 1 (.t 24) (.t 25), none⟩) ::
   o17_23_1
theorem h17_23 : wS fs out b o17_23 t h R = (wV fs out (b + 0) noT h (.mov (.k (t 6))) fun x24_0 h => wV fs out (b + 1) noT h (.mov (.k (t 7))) fun x25_1 h => wV fs out (b + 2) noT h (.mov (.k (t 8))) fun x26_2 h => wV fs out (b + 3) noT h (.mov (.k (t 0))) fun x27_3 h => wV fs out (b + 4) noT h (.mov (.k (t 7))) fun x28_4 h => wV fs out (b + 5) noT h (.iadr 2 (.k x27_3) (.k x28_4)) fun x29_5 h => wV fs out (b + 6) noT h (.fadr 0 (.k x29_5)) fun x30_6 h => wV fs out (b + 7) noT h (.load none (.k x30_6)) fun x31_7 h => wV fs out (b + 8) noT h (.bin .sub (.k x26_2) (.k x31_7)) fun x32_8 h => wV fs out (b + 9) noT h (.iadr 1 (.k x24_0) (.k x25_1)) fun x33_9 h => wS fs out b o17_23_1 (upd (upd (upd (upd (upd (upd (upd (upd (upd (upd t 24 x24_0) 25 x25_1) 26 x26_2) 27 x27_3) 28 x28_4) 29 x29_5) 30 x30_6) 31 x31_7) 32 x32_8) 33 x33_9) h R) := by kernel_rfl
def c17_23 : ACode := .region (o17_23.map (·.2)) [0, 1, 2, 3, 4, 5, 6, 7, 8, 9, 10] []
theorem s17_23 (h : wS fs out s.h.nx o17_23 s.t ⟨s.h.o, s.h.nx + 11⟩ (Q .normal)) : wC fs out c17_23 s Q := wC_region rfl rfl h
def c17_21 : ACode := .seq c17_22 c17_23
theorem s17_21 (h : wS fs out s.h.nx o17_22 s.t ⟨s.h.o, s.h.nx + 5⟩ fun s1 => wC fs out c17_23 s1 Q) : wC fs out c17_21 s Q := wC_seq (s17_22 h)
def c17_20 : ACode := .block 1 c17_21
theorem s17_20 (h : wC fs out c17_21 s fun e s1 => Q (if e = .exit 1 then .normal else e) s1) : wC fs out c17_20 s Q := wC_block h
def o17_24 : List (Nat × AOper) := (0, ⟨some 34, .bin .add (.t 19) (.k (.v (.one (.int .i64 1)))), none⟩) ::
   (1, ⟨some 19, .mov (.t 34), none⟩) ::
   []
theorem h17_24 : wS fs out b o17_24 t h R = (wV fs out (b + 0) noT h (.bin .add (.k (t 19)) (.k (.v (.one (.int .i64 1))))) fun x34_0 h => wV fs out (b + 1) noT h (.mov (.k x34_0)) fun x19_1 h => R ⟨(upd (upd t 34 x34_0) 19 x19_1), h⟩) := by kernel_rfl
def c17_24 : ACode := .region (o17_24.map (·.2)) [0, 1] []
theorem s17_24 (h : wS fs out s.h.nx o17_24 s.t ⟨s.h.o, s.h.nx + 2⟩ (Q .normal)) : wC fs out c17_24 s Q := wC_region rfl rfl h
def c17_19 : ACode := .seq c17_20 c17_24
theorem s17_19 (h : wC fs out c17_20 s fun e s1 => match e with | .normal => wC fs out c17_24 s1 Q | e => Q e s1) : wC fs out c17_19 s Q := wC_seq h
def c17_17 : ACode := .seq c17_18 c17_19
theorem s17_17 (h : onC (s.t 20) (wC fs out c17_19 (keepOnly [0, 6, 17, 18, 19] s) Q) (Q (.exit 0) (keepOnly [0, 6, 17, 18, 19] s))) : wC fs out c17_17 s Q := wC_seq (s17_18 h)
def c17_15 : ACode := .seq c17_16 c17_17
theorem s17_15 (h : wS fs out s.h.nx o17_16 s.t ⟨s.h.o, s.h.nx + 1⟩ fun s1 => wC fs out c17_17 s1 Q) : wC fs out c17_15 s Q := wC_seq (s17_16 h)
def c17_14 : ACode := .loop [0, 6, 17, 18, 19] c17_15
theorem s17_14 (I : Nat → St → Prop) (n : Nat) (h0 : I n (keepOnly [0, 6, 17, 18, 19] s)) (step : ∀ m s (Q' : AExit → St → Prop), I m s → (∀ m' s1, m' < m → I m' (keepOnly [0, 6, 17, 18, 19] s1) → Q' .normal s1) → (∀ i s1, Q (.exit i) s1 → Q' (.exit i) s1) → (∀ s1, Q .ret s1 → Q' .ret s1) → wC fs out c17_15 s Q') : wC fs out c17_14 s Q := wC_loopQ I n h0 step
def c17_13 : ACode := .block 0 c17_14
theorem s17_13 (h : wC fs out c17_14 s fun e s1 => Q (if e = .exit 0 then .normal else e) s1) : wC fs out c17_13 s Q := wC_block h
def c17_11 : ACode := .seq c17_12 c17_13
theorem s17_11 (h : wS fs out s.h.nx o17_12 s.t ⟨s.h.o, s.h.nx + 3⟩ fun s1 => wC fs out c17_13 s1 Q) : wC fs out c17_11 s Q := wC_seq (s17_12 h)
def o17_26 : List (Nat × AOper) := (0, ⟨some 35, .mov (.t 6), none⟩) ::
   (1, ⟨some 4, .mov (.t 35), none⟩) ::
   (2, ⟨some 5, .mov (.k (.v (.one (.int .i64 0)))), none⟩) ::
   []
theorem h17_26 : wS fs out b o17_26 t h R = (wV fs out (b + 0) noT h (.mov (.k (t 6))) fun x35_0 h => wV fs out (b + 1) noT h (.mov (.k x35_0)) fun x4_1 h => wV fs out (b + 2) noT h (.mov (.k (.v (.one (.int .i64 0))))) fun x5_2 h => R ⟨(upd (upd (upd t 35 x35_0) 4 x4_1) 5 x5_2), h⟩) := by kernel_rfl
def c17_26 : ACode := .region (o17_26.map (·.2)) [0, 1, 2] []
theorem s17_26 (h : wS fs out s.h.nx o17_26 s.t ⟨s.h.o, s.h.nx + 3⟩ (Q .normal)) : wC fs out c17_26 s Q := wC_region rfl rfl h
def c17_25 : ACode := .seq c17_26 .ret
theorem s17_25 (h : wS fs out s.h.nx o17_26 s.t ⟨s.h.o, s.h.nx + 3⟩ fun s1 => wC fs out .ret s1 Q) : wC fs out c17_25 s Q := wC_seq (s17_26 h)
def c17_10 : ACode := .seq c17_11 c17_25
theorem s17_10 (h : wC fs out c17_11 s fun e s1 => match e with | .normal => wC fs out c17_25 s1 Q | e => Q e s1) : wC fs out c17_10 s Q := wC_seq h
def c17_8 : ACode := .seq c17_9 c17_10
theorem s17_8 (h : wS fs out s.h.nx o17_9 s.t ⟨s.h.o, s.h.nx + 4⟩ fun s1 => wC fs out c17_10 s1 Q) : wC fs out c17_8 s Q := wC_seq (s17_9 h)
def c17_2 : ACode := .seq c17_3 c17_8
theorem s17_2 (h : wC fs out c17_3 s fun e s1 => match e with | .normal => wC fs out c17_8 s1 Q | e => Q e s1) : wC fs out c17_2 s Q := wC_seq h
def c17_0 : ACode := .seq c17_1 c17_2
theorem s17_0 (h : wS fs out s.h.nx o17_1 s.t ⟨s.h.o, s.h.nx + 2⟩ fun s1 => wC fs out c17_2 s1 Q) : wC fs out c17_0 s Q := wC_seq (s17_1 h)
def a17 : AFunc := ⟨2, [4, 5], none, c17_0⟩
theorem t17 : tell Try.prog Try.f17 [([0, 1, 4, 5], [], []), ([0, 6, 17, 18, 19], [], []), ([0, 6, 17, 18, 19], [], [])] = some a17 := by kernel_rfl
theorem ok17 : FuncOk Try.prog 17 a17 := tell_ok Try.func17 t17

/-- railplan/railplanref30.Lateness -/
def o18_1 : List (Nat × AOper) := (0, ⟨some 4, .mov (.k (.v (.one .nils))), none⟩) ::
   (1, ⟨some 5, .mov (.k (.v (.one (.int .i64 0)))), none⟩) ::
   []
theorem h18_1 : wS fs out b o18_1 t h R = (wV fs out (b + 0) noT h (.mov (.k (.v (.one .nils)))) fun x4_0 h => wV fs out (b + 1) noT h (.mov (.k (.v (.one (.int .i64 0))))) fun x5_1 h => R ⟨(upd (upd t 4 x4_0) 5 x5_1), h⟩) := by kernel_rfl
def c18_1 : ACode := .region (o18_1.map (·.2)) [0, 1] []
theorem s18_1 (h : wS fs out s.h.nx o18_1 s.t ⟨s.h.o, s.h.nx + 2⟩ (Q .normal)) : wC fs out c18_1 s Q := wC_region rfl rfl h
def o18_4 : List (Nat × AOper) := (0, ⟨some 8, .mov (.t 1), none⟩) ::
   (1, ⟨some 9, .len (.t 8), none⟩) ::
   (2, ⟨some 10, .mov (.t 0), none⟩) ::
   (3, ⟨some 11, .len (.t 10), none⟩) ::
   (4, ⟨some 12, .bin .neq (.t 9) (.t 11), none⟩) ::
   []
theorem h18_4 : wS fs out b o18_4 t h R = (wV fs out (b + 0) noT h (.mov (.k (t 1))) fun x8_0 h => wV fs out (b + 1) noT h (.len (.k x8_0)) fun x9_1 h => wV fs out (b + 2) noT h (.mov (.k (t 0))) fun x10_2 h => wV fs out (b + 3) noT h (.len (.k x10_2)) fun x11_3 h => wV fs out (b + 4) noT h (.bin .neq (.k x9_1) (.k x11_3)) fun x12_4 h => R ⟨(upd (upd (upd (upd (upd t 8 x8_0) 9 x9_1) 10 x10_2) 11 x11_3) 12 x12_4), h⟩) := by kernel_rfl
def c18_4 : ACode := .region (o18_4.map (·.2)) [0, 1, 2, 3, 4] []
theorem s18_4 (h : wS fs out s.h.nx o18_4 s.t ⟨s.h.o, s.h.nx + 5⟩ (Q .normal)) : wC fs out c18_4 s Q := wC_region rfl rfl h
def o18_7 : List (Nat × AOper) := (0, ⟨some 4, .mov (.k (.v (.one .nils))), none⟩) ::
   (1, ⟨some 5, .mov (.k (.v (.one (.int .i64 1)))), none⟩) ::
   []
theorem h18_7 : wS fs out b o18_7 t h R = (wV fs out (b + 0) noT h (.mov (.k (.v (.one .nils)))) fun x4_0 h => wV fs out (b + 1) noT h (.mov (.k (.v (.one (.int .i64 1))))) fun x5_1 h => R ⟨(upd (upd t 4 x4_0) 5 x5_1), h⟩) := by kernel_rfl
def c18_7 : ACode := .region (o18_7.map (·.2)) [0, 1] []
theorem s18_7 (h : wS fs out s.h.nx o18_7 s.t ⟨s.h.o, s.h.nx + 2⟩ (Q .normal)) : wC fs out c18_7 s Q := wC_region rfl rfl h
def c18_6 : ACode := .seq c18_7 .ret
theorem s18_6 (h : wS fs out s.h.nx o18_7 s.t ⟨s.h.o, s.h.nx + 2⟩ fun s1 => wC fs out .ret s1 Q) : wC fs out c18_6 s Q := wC_seq (s18_7 h)
def c18_5 : ACode := .cond (.t 12) c18_6 .skip [0, 1, 4, 5]
theorem s18_5 (h : onC (s.t 12) (wC fs out c18_6 s fun e s1 => Q e (keepOnly [0, 1, 4, 5] s1)) (Q .normal (keepOnly [0, 1, 4, 5] s))) : wC fs out c18_5 s Q := wC_condC (by first | exact h | (simp only [wC_skip, wC_exit, wC_ret]; exact h))
def c18_3 : ACode := .seq c18_4 c18_5
theorem s18_3 (h : wS fs out s.h.nx o18_4 s.t ⟨s.h.o, s.h.nx + 5⟩ fun s1 => wC fs out c18_5 s1 Q) : wC fs out c18_3 s Q := wC_seq (s18_4 h)
def o18_9 : List (Nat × AOper) := (0, ⟨some 6, .mov (.k (.v (.one .nils))), none⟩) ::
   []
theorem h18_9 : wS fs out b o18_9 t h R = (wV fs out (b + 0) noT h (.mov (.k (.v (.one .nils)))) fun x6_0 h => R ⟨(upd t 6 x6_0), h⟩) := by kernel_rfl
def c18_9 : ACode := .region (o18_9.map (·.2)) [0] []
theorem s18_9 (h : wS fs out s.h.nx o18_9 s.t ⟨s.h.o, s.h.nx + 1⟩ (Q .normal)) : wC fs out c18_9 s Q := wC_region rfl rfl h
def o18_12 : List (Nat × AOper) := (0, ⟨some 13, .mov (.t 0), none⟩) ::
   (1, ⟨some 14, .len (.t 13), none⟩) ::
   (2, ⟨some 15, .mov (.k (.v (.one (.int .i64 0)))), none⟩) ::
   []
theorem h18_12 : wS fs out b o18_12 t h R = (wV fs out (b + 0) noT h (.mov (.k (t 0))) fun x13_0 h => wV fs out (b + 1) noT h (.len (.k x13_0)) fun x14_1 h => wV fs out (b + 2) noT h (.mov (.k (.v (.one (.int .i64 0))))) fun x15_2 h => R ⟨(upd (upd (upd t 13 x13_0) 14 x14_1) 15 x15_2), h⟩) := by kernel_rfl
def c18_12 : ACode := .region (o18_12.map (·.2)) [0, 1, 2] []
theorem s18_12 (h : wS fs out s.h.nx o18_12 s.t ⟨s.h.o, s.h.nx + 3⟩ (Q .normal)) : wC fs out c18_12 s Q := wC_region rfl rfl h
def o18_16 : List (Nat × AOper) := (0, ⟨some 16, .bin .lss (.t 15) (.t 14), none⟩) ::
   []
theorem h18_16 : wS fs out b o18_16 t h R = (wV fs out (b + 0) noT h (.bin .lss (.k (t 15)) (.k (t 14))) fun x16_0 h => R ⟨(upd t 16 x16_0), h⟩) := by kernel_rfl
def c18_16 : ACode := .region (o18_16.map (·.2)) [0] []
theorem s18_16 (h : wS fs out s.h.nx o18_16 s.t ⟨s.h.o, s.h.nx + 1⟩ (Q .normal)) : wC fs out c18_16 s Q := wC_region rfl rfl h
def c18_18 : ACode := .cond (.t 16) .skip (.exit 0) [0, 1, 6, 14, 15]
theorem s18_18 (h : onC (s.t 16) (Q .normal (keepOnly [0, 1, 6, 14, 15] s)) (Q (.exit 0) (keepOnly [0, 1, 6, 14, 15] s))) : wC fs out c18_18 s Q := wC_condC (by first | exact h | (simp only [wC_skip, wC_exit, wC_ret]; exact h))
def o18_22 : List (Nat × AOper) := (0, ⟨some 17, .mov (.t 15), none⟩) ::
   (1, ⟨some 7, .mov (.t 17), none⟩) ::
   []
theorem h18_22 : wS fs out b o18_22 t h R = (wV fs out (b + 0) noT h (.mov (.k (t 15))) fun x17_0 h => wV fs out (b + 1) noT h (.mov (.k x17_0)) fun x7_1 h => R ⟨(upd (upd t 17 x17_0) 7 x7_1), h⟩) := by kernel_rfl
def c18_22 : ACode := .region (o18_22.map (·.2)) [0, 1] []
theorem s18_22 (h : wS fs out s.h.nx o18_22 s.t ⟨s.h.o, s.h.nx + 2⟩ (Q .normal)) : wC fs out c18_22 s Q := wC_region rfl rfl h
def o18_23_2 : List (Nat × AOper) := (13, ⟨some 6, .mov (.t 30), none⟩) ::
   []
theorem h18_23_2 : wS fs out b o18_23_2 t h R = (wV fs out (b + 13) noT h (.mov (.k (t 30))) fun x6_0 h => R ⟨(upd t 6 x6_0), h⟩) := by kernel_rfl
def o18_23_1 : List (Nat × AOper) := (10, ⟨some 28, .bin .sub (.t 22) (.t 27), none⟩) ::
   (11, ⟨some 29, .bsl 3 1 1 [(.int .i64 0)] [(0, 1, (.t 28))], none⟩) ::
   (12, ⟨some 30, .app 3 1 8 (.t 18) (.t 29), none⟩) ::
   o18_23_2
theorem h18_23_1 : wS fs out b o18_23_1 t h R = (wV fs out (b + 10) noT h (.bin .sub (.k (t 22)) (.k (t 27))) fun x28_0 h => wV fs out (b + 11) noT h (.bsl 3 1 1 [(.int .i64 0)] [(0, 1, (.k x28_0))]) fun x29_1 h => wV fs out (b + 12) noT h (.app 3 1 8 (.k (t 18)) (.k x29_1)) fun x30_2 h => wS fs out b o18_23_2 (upd (upd (upd t 28 x28_0) 29 x29_1) 30 x30_2) h R) := by kernel_rfl
def o18_23 : List (Nat × AOper) := (0, ⟨some 18, .mov (.t 6), none⟩) ::
   (1, ⟨some 19, .mov (.t 1), none⟩) ::
   (2, ⟨some 20, .mov (.t 7), none⟩) ::
   (3, ⟨some 21, .iadr 1 (.t 19) (.t 20), none⟩) ::
   (4, ⟨some 22, .load none (.t 21), none⟩) ::
   (5, ⟨some 23, .mov (.t 0), none⟩) ::
   (6, ⟨some 24, .mov (.t 7), none⟩) ::
   (7, ⟨some 25, .iadr 2 (.t 23) (.t 24), none⟩) ::
   (8, ⟨some 26, .fadr 0 (.t 25), none⟩) ::
   (9, ⟨some 27, .load none (.t 26), none⟩) ::
   o18_23_1
theorem h18_23 : wS fs out b o18_23 t h R = (wV fs out (b + 0) noT h (.mov (.k (t 6))) fun x18_0 h => wV fs out (b + 1) noT h (.mov (.k (t 1))) fun x19_1 h => wV fs out (b + 2) noT h (.mov (.k (t 7))) fun x20_2 h => wV fs out (b + 3) noT h (.iadr 1 (.k x19_1) (.k x20_2)) fun x21_3 h => wV fs out (b + 4) noT h (.load none (.k x21_3)) fun x22_4 h => wV fs out (b + 5) noT h (.mov (.k (t 0))) fun x23_5 h => wV fs out (b + 6) noT h (.mov (.k (t 7))) fun x24_6 h => wV fs out (b + 7) noT h (.iadr 2 (.k x23_5) (.k x24_6)) fun x25_7 h => wV fs out (b + 8) noT h (.fadr 0 (.k x25_7)) fun x26_8 h => wV fs out (b + 9) noT h (.load none (.k x26_8)) fun x27_9 h => wS fs out b o18_23_1 (upd (upd (upd (upd (upd (upd (upd (upd (upd (upd t 18 x18_0) 19 x19_1) 20 x20_2) 21 x21_3) 22 x22_4) 23 x23_5) 24 x24_6) 25 x25_7) 26 x26_8) 27 x27_9) h R) := by kernel_rfl
def c18_23 : ACode := .region (o18_23.map (·.2)) [0, 1, 2, 3, 4, 5, 6, 7, 8, 9, 10, 11, 12, 13] []
theorem s18_23 (h : wS fs out s.h.nx o18_23 s.t ⟨s.h.o, s.h.nx + 14⟩ (Q .normal)) : wC fs out c18_23 s Q := wC_region rfl rfl h
def c18_21 : ACode := .seq c18_22 c18_23
theorem s18_21 (h : wS fs out s.h.nx o18_22 s.t ⟨s.h.o, s.h.nx + 2⟩ fun s1 => wC fs out c18_23 s1 Q) : wC fs out c18_21 s Q := wC_seq (s18_22 h)
def c18_20 : ACode := .block 1 c18_21
theorem s18_20 (h : wC fs out c18_21 s fun e s1 => Q (if e = .exit 1 then .normal else e) s1) : wC fs out c18_20 s Q := wC_block h
def o18_24 : List (Nat × AOper) := (0, ⟨some 31, .bin .add (.t 15) (.k (.v (.one (.int .i64 1)))), none⟩) ::
   (1, ⟨some 15, .mov (.t 31), none⟩) ::
   []
theorem h18_24 : wS fs out b o18_24 t h R = (wV fs out (b + 0) noT h (.bin .add (.k (t 15)) (.k (.v (.one (.int .i64 1))))) fun x31_0 h => wV fs out (b + 1) noT h (.mov (.k x31_0)) fun x15_1 h => R ⟨(upd (upd t 31 x31_0) 15 x15_1), h⟩) := by kernel_rfl
def c18_24 : ACode := .region (o18_24.map (·.2)) [0, 1] []
theorem s18_24 (h : wS fs out s.h.nx o18_24 s.t ⟨s.h.o, s.h.nx + 2⟩ (Q .normal)) : wC fs out c18_24 s Q := wC_region rfl rfl h
def c18_19 : ACode := .seq c18_20 c18_24
theorem s18_19 (h : wC fs out c18_20 s fun e s1 => match e with | .normal => wC fs out c18_24 s1 Q | e => Q e s1) : wC fs out c18_19 s Q := wC_seq h
def c18_17 : ACode := .seq c18_18 c18_19
theorem s18_17 (h : onC (s.t 16) (wC fs out c18_19 (keepOnly [0, 1, 6, 14, 15] s) Q) (Q (.exit 0) (keepOnly [0, 1, 6, 14, 15] s))) : wC fs out c18_17 s Q := wC_seq (s18_18 h)
def c18_15 : ACode := .seq c18_16 c18_17
theorem s18_15 (h : wS fs out s.h.nx o18_16 s.t ⟨s.h.o, s.h.nx + 1⟩ fun s1 => wC fs out c18_17 s1 Q) : wC fs out c18_15 s Q := wC_seq (s18_16 h)
def c18_14 : ACode := .loop [0, 1, 6, 14, 15] c18_15
theorem s18_14 (I : Nat → St → Prop) (n : Nat) (h0 : I n (keepOnly [0, 1, 6, 14, 15] s)) (step : ∀ m s (Q' : AExit → St → Prop), I m s → (∀ m' s1, m' < m → I m' (keepOnly [0, 1, 6, 14, 15] s1) → Q' .normal s1) → (∀ i s1, Q (.exit i) s1 → Q' (.exit i) s1) → (∀ s1, Q .ret s1 → Q' .ret s1) → wC fs out c18_15 s Q') : wC fs out c18_14 s Q := wC_loopQ I n h0 step
def c18_13 : ACode := .block 0 c18_14
theorem s18_13 (h : wC fs out c18_14 s fun e s1 => Q (if e = .exit 0 then .normal else e) s1) : wC fs out c18_13 s Q := wC_block h
def c18_11 : ACode := .seq c18_12 c18_13
theorem s18_11 (h : wS fs out s.h.nx o18_12 s.t ⟨s.h.o, s.h.nx + 3⟩ fun s1 => wC fs out c18_13 s1 Q) : wC fs out c18_11 s Q := wC_seq (s18_12 h)
def o18_26 : List (Nat × AOper) := (0, ⟨some 32, .mov (.t 6), none⟩) ::
   (1, ⟨some 4, .mov (.t 32), none⟩) ::
   (2, ⟨some 5, .mov (.k (.v (.one (.int .i64 0)))), none⟩) ::
   []
theorem h18_26 : wS fs out b o18_26 t h R = (wV fs out (b + 0) noT h (.mov (.k (t 6))) fun x32_0 h => wV fs out (b + 1) noT h (.mov (.k x32_0)) fun x4_1 h => wV fs out (b + 2) noT h (.mov (.k (.v (.one (.int .i64 0))))) fun x5_2 h => R ⟨(upd (upd (upd t 32 x32_0) 4 x4_1) 5 x5_2), h⟩) := by kernel_rfl
def c18_26 : ACode := .region (o18_26.map (·.2)) [0, 1, 2] []
theorem s18_26 (h : wS fs out s.h.nx o18_26 s.t ⟨s.h.o, s.h.nx + 3⟩ (Q .normal)) : wC fs out c18_26 s Q := wC_region rfl rfl h
def c18_25 : ACode := .seq c18_26 .ret
theorem s18_25 (h : wS fs out s.h.nx o18_26 s.t ⟨s.h.o, s.h.nx + 3⟩ fun s1 => wC fs out .ret s1 Q) : wC fs out c18_25 s Q := wC_seq (s18_26 h)
def c18_10 : ACode := .seq c18_11 c18_25
theorem s18_10 (h : wC fs out c18_11 s fun e s1 => match e with | .normal => wC fs out c18_25 s1 Q | e => Q e s1) : wC fs out c18_10 s Q := wC_seq h
def c18_8 : ACode := .seq c18_9 c18_10
theorem s18_8 (h : wS fs out s.h.nx o18_9 s.t ⟨s.h.o, s.h.nx + 1⟩ fun s1 => wC fs out c18_10 s1 Q) : wC fs out c18_8 s Q := wC_seq (s18_9 h)
def c18_2 : ACode := .seq c18_3 c18_8
theorem s18_2 (h : wC fs out c18_3 s fun e s1 => match e with | .normal => wC fs out c18_8 s1 Q | e => Q e s1) : wC fs out c18_2 s Q := wC_seq h
def c18_0 : ACode := .seq c18_1 c18_2
theorem s18_0 (h : wS fs out s.h.nx o18_1 s.t ⟨s.h.o, s.h.nx + 2⟩ fun s1 => wC fs out c18_2 s1 Q) : wC fs out c18_0 s Q := wC_seq (s18_1 h)
def a18 : AFunc := ⟨2, [4, 5], none, c18_0⟩
theorem t18 : tell Try.prog Try.f18 [([0, 1, 4, 5], [], []), ([0, 1, 6, 14, 15], [], []), ([0, 1, 6, 14, 15], [], []), ([0, 1, 2, 3, 4, 5, 6, 7, 8, 9, 10, 11, 12, 13], [], [0, 0, 0, 6, 14, 0, 0, 96, 224, 480, 1022, 2046, 4095, 8191])] = some a18 := by kernel_rfl
theorem ok18 : FuncOk Try.prog 18 a18 := tell_ok Try.func18 t18

end Go.Proofs.Ythoicdnlcnppgaa.Fn
