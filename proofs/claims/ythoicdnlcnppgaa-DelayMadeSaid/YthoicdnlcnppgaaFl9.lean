/- A law's function, as the abstract machine's, and that it is. Conditions: none. -/
import Derived.Test.YthoicdnlcnppgaaFn
set_option linter.unusedVariables false
set_option linter.unusedSimpArgs false
namespace Go.Proofs.Ythoicdnlcnppgaa.Fn
open Go Go.Am
set_option maxRecDepth 100000
section
variable {fs : Nat → Option AFunc} {out : Rec} {s : St} {Q : AExit → St → Prop} {b : Nat} {t : Nat → T} {h : AH} {R : St → Prop}
/-- railplan/railplanlaw34.DelayMade -/
def o9_1 : List (Nat × AOper) := (0, ⟨some 8, .mov (.k (.v (.one (.bool false)))), none⟩) ::
   []
theorem h9_1 : wS fs out b o9_1 t h R = (wV fs out (b + 0) noT h (.mov (.k (.v (.one (.bool false))))) fun x8_0 h => R ⟨(upd t 8 x8_0), h⟩) := by kernel_rfl
def c9_1 : ACode := .region (o9_1.map (·.2)) [0] []
theorem s9_1 (h : wS fs out s.h.nx o9_1 s.t ⟨s.h.o, s.h.nx + 1⟩ (Q .normal)) : wC fs out c9_1 s Q := wC_region rfl rfl h
def o9_3_1 : List (Nat × AOper) := (2, ⟨some 24, .mov (.t 26), none⟩) ::
   (3, ⟨some 27, .ext 0 (.t 24), none⟩) ::
   (4, ⟨some 28, .ext 1 (.t 24), none⟩) ::
   (5, ⟨some 29, .ext 2 (.t 24), none⟩) ::
   (6, ⟨some 9, .mov (.t 27), none⟩) ::
   (7, ⟨some 10, .mov (.t 28), none⟩) ::
   (8, ⟨some 11, .mov (.t 29), none⟩) ::
   []
theorem h9_3_1 : wS fs out b o9_3_1 t h R = (wV fs out (b + 2) noT h (.mov (.k (t 26))) fun x24_0 h => wV fs out (b + 3) noT h (.ext 0 (.k x24_0)) fun x27_1 h => wV fs out (b + 4) noT h (.ext 1 (.k x24_0)) fun x28_2 h => wV fs out (b + 5) noT h (.ext 2 (.k x24_0)) fun x29_3 h => wV fs out (b + 6) noT h (.mov (.k x27_1)) fun x9_4 h => wV fs out (b + 7) noT h (.mov (.k x28_2)) fun x10_5 h => wV fs out (b + 8) noT h (.mov (.k x29_3)) fun x11_6 h => R ⟨(upd (upd (upd (upd (upd (upd (upd t 24 x24_0) 27 x27_1) 28 x28_2) 29 x29_3) 9 x9_4) 10 x10_5) 11 x11_6), h⟩) := by kernel_rfl
def o9_3 : List (Nat × AOper) := (0, ⟨some 25, .mov (.t 0), none⟩) ::
   (1, ⟨some 26, .call 12 [(.t 25)], none⟩) ::
   o9_3_1
theorem h9_3 : wS fs out b o9_3 t h R = (wV fs out (b + 0) noT h (.mov (.k (t 0))) fun x25_0 h => wV fs out (b + 1) noT h (.call 12 [(.k x25_0)]) fun x26_1 h => wS fs out b o9_3_1 (upd (upd t 25 x25_0) 26 x26_1) h R) := by kernel_rfl
def c9_3 : ACode := .region (o9_3.map (·.2)) [0, 1, 2, 3, 4, 5, 6, 7, 8] []
theorem s9_3 (h : wS fs out s.h.nx o9_3 s.t ⟨s.h.o, s.h.nx + 9⟩ (Q .normal)) : wC fs out c9_3 s Q := wC_region rfl rfl h
def o9_6_1 : List (Nat × AOper) := (4, ⟨some 34, .not (.t 33), none⟩) ::
   []
theorem h9_6_1 : wS fs out b o9_6_1 t h R = (wV fs out (b + 4) noT h (.not (.k (t 33))) fun x34_0 h => R ⟨(upd t 34 x34_0), h⟩) := by kernel_rfl
def o9_6 : List (Nat × AOper) := (0, ⟨some 30, .mov (.t 9), none⟩) ::
   (1, ⟨some 31, .mov (.t 10), none⟩) ::
   (2, ⟨some 32, .mov (.t 11), none⟩) ::
   (3, ⟨some 33, .call 22 [(.t 30), (.t 31), (.t 32)], none⟩) ::
   o9_6_1
theorem h9_6 : wS fs out b o9_6 t h R = (wV fs out (b + 0) noT h (.mov (.k (t 9))) fun x30_0 h => wV fs out (b + 1) noT h (.mov (.k (t 10))) fun x31_1 h => wV fs out (b + 2) noT h (.mov (.k (t 11))) fun x32_2 h => wV fs out (b + 3) noT h (.call 22 [(.k x30_0), (.k x31_1), (.k x32_2)]) fun x33_3 h => wS fs out b o9_6_1 (upd (upd (upd (upd t 30 x30_0) 31 x31_1) 32 x32_2) 33 x33_3) h R) := by kernel_rfl
def c9_6 : ACode := .region (o9_6.map (·.2)) [0, 1, 2, 3, 4] []
theorem s9_6 (h : wS fs out s.h.nx o9_6 s.t ⟨s.h.o, s.h.nx + 5⟩ (Q .normal)) : wC fs out c9_6 s Q := wC_region rfl rfl h
def o9_9 : List (Nat × AOper) := (0, ⟨some 8, .mov (.k (.v (.one (.bool false)))), none⟩) ::
   []
theorem h9_9 : wS fs out b o9_9 t h R = (wV fs out (b + 0) noT h (.mov (.k (.v (.one (.bool false))))) fun x8_0 h => R ⟨(upd t 8 x8_0), h⟩) := by kernel_rfl
def c9_9 : ACode := .region (o9_9.map (·.2)) [0] []
theorem s9_9 (h : wS fs out s.h.nx o9_9 s.t ⟨s.h.o, s.h.nx + 1⟩ (Q .normal)) : wC fs out c9_9 s Q := wC_region rfl rfl h
def c9_8 : ACode := .seq c9_9 .ret
theorem s9_8 (h : wS fs out s.h.nx o9_9 s.t ⟨s.h.o, s.h.nx + 1⟩ fun s1 => wC fs out .ret s1 Q) : wC fs out c9_8 s Q := wC_seq (s9_9 h)
def c9_7 : ACode := .cond (.t 34) c9_8 .skip [1, 2, 3, 8, 9, 10, 11]
theorem s9_7 (h : onC (s.t 34) (wC fs out c9_8 s fun e s1 => Q e (keepOnly [1, 2, 3, 8, 9, 10, 11] s1)) (Q .normal (keepOnly [1, 2, 3, 8, 9, 10, 11] s))) : wC fs out c9_7 s Q := wC_condC (by first | exact h | (simp only [wC_skip, wC_exit, wC_ret]; exact h))
def c9_5 : ACode := .seq c9_6 c9_7
theorem s9_5 (h : wS fs out s.h.nx o9_6 s.t ⟨s.h.o, s.h.nx + 5⟩ fun s1 => wC fs out c9_7 s1 Q) : wC fs out c9_5 s Q := wC_seq (s9_6 h)
def o9_12 : List (Nat × AOper) := (0, ⟨some 35, .mov (.t 1), none⟩) ::
   (1, ⟨some 36, .call 15 [(.t 35), (.k (.v (.one (.int .i64 7))))], none⟩) ::
   []
theorem h9_12 : wS fs out b o9_12 t h R = (wV fs out (b + 0) noT h (.mov (.k (t 1))) fun x35_0 h => wV fs out (b + 1) noT h (.call 15 [(.k x35_0), (.k (.v (.one (.int .i64 7))))]) fun x36_1 h => R ⟨(upd (upd t 35 x35_0) 36 x36_1), h⟩) := by kernel_rfl
def c9_12 : ACode := .region (o9_12.map (·.2)) [0, 1] []
theorem s9_12 (h : wS fs out s.h.nx o9_12 s.t ⟨s.h.o, s.h.nx + 2⟩ (Q .normal)) : wC fs out c9_12 s Q := wC_region rfl rfl h
def o9_15 : List (Nat × AOper) := (0, ⟨some 38, .bin .eql (.t 36) (.k (.v (.one (.int .i64 0)))), none⟩) ::
   (1, ⟨some 37, .mov (.t 38), none⟩) ::
   []
theorem h9_15 : wS fs out b o9_15 t h R = (wV fs out (b + 0) noT h (.bin .eql (.k (t 36)) (.k (.v (.one (.int .i64 0))))) fun x38_0 h => wV fs out (b + 1) noT h (.mov (.k x38_0)) fun x37_1 h => R ⟨(upd (upd t 38 x38_0) 37 x37_1), h⟩) := by kernel_rfl
def c9_15 : ACode := .region (o9_15.map (·.2)) [0, 1] []
theorem s9_15 (h : wS fs out s.h.nx o9_15 s.t ⟨s.h.o, s.h.nx + 2⟩ (Q .normal)) : wC fs out c9_15 s Q := wC_region rfl rfl h
def o9_18 : List (Nat × AOper) := (0, ⟨some 39, .mov (.t 10), none⟩) ::
   (1, ⟨some 40, .len (.t 39), none⟩) ::
   (2, ⟨some 41, .bin .gtr (.t 40) (.k (.v (.one (.int .i64 0)))), none⟩) ::
   []
theorem h9_18 : wS fs out b o9_18 t h R = (wV fs out (b + 0) noT h (.mov (.k (t 10))) fun x39_0 h => wV fs out (b + 1) noT h (.len (.k x39_0)) fun x40_1 h => wV fs out (b + 2) noT h (.bin .gtr (.k x40_1) (.k (.v (.one (.int .i64 0))))) fun x41_2 h => R ⟨(upd (upd (upd t 39 x39_0) 40 x40_1) 41 x41_2), h⟩) := by kernel_rfl
def c9_18 : ACode := .region (o9_18.map (·.2)) [0, 1, 2] []
theorem s9_18 (h : wS fs out s.h.nx o9_18 s.t ⟨s.h.o, s.h.nx + 3⟩ (Q .normal)) : wC fs out c9_18 s Q := wC_region rfl rfl h
def o9_21_1 : List (Nat × AOper) := (5, ⟨some 47, .iadr 4 (.t 42) (.t 46), none⟩) ::
   (6, ⟨some 12, .mov (.t 47), none⟩) ::
   []
theorem h9_21_1 : wS fs out b o9_21_1 t h R = (wV fs out (b + 5) noT h (.iadr 4 (.k (t 42)) (.k (t 46))) fun x47_0 h => wV fs out (b + 6) noT h (.mov (.k x47_0)) fun x12_1 h => R ⟨(upd (upd t 47 x47_0) 12 x12_1), h⟩) := by kernel_rfl
def o9_21 : List (Nat × AOper) := (0, ⟨some 42, .mov (.t 10), none⟩) ::
   (1, ⟨some 43, .mov (.t 2), none⟩) ::
   (2, ⟨some 44, .mov (.t 10), none⟩) ::
   (3, ⟨some 45, .len (.t 44), none⟩) ::
   (4, ⟨some 46, .call 15 [(.t 43), (.t 45)], none⟩) ::
   o9_21_1
theorem h9_21 : wS fs out b o9_21 t h R = (wV fs out (b + 0) noT h (.mov (.k (t 10))) fun x42_0 h => wV fs out (b + 1) noT h (.mov (.k (t 2))) fun x43_1 h => wV fs out (b + 2) noT h (.mov (.k (t 10))) fun x44_2 h => wV fs out (b + 3) noT h (.len (.k x44_2)) fun x45_3 h => wV fs out (b + 4) noT h (.call 15 [(.k x43_1), (.k x45_3)]) fun x46_4 h => wS fs out b o9_21_1 (upd (upd (upd (upd (upd t 42 x42_0) 43 x43_1) 44 x44_2) 45 x45_3) 46 x46_4) h R) := by kernel_rfl
def c9_21 : ACode := .region (o9_21.map (·.2)) [0, 1, 2, 3, 4, 5, 6] []
theorem s9_21 (h : wS fs out s.h.nx o9_21 s.t ⟨s.h.o, s.h.nx + 7⟩ (Q .normal)) : wC fs out c9_21 s Q := wC_region rfl rfl h
def o9_22_1 : List (Nat × AOper) := (10, ⟨some 58, .nilchk (.t 48), none⟩) ::
   (11, ⟨some 59, .fadr 0 (.t 58), none⟩) ::
   (12, ⟨none, .store 1 (.t 59) (.t 53), none⟩) ::
   (13, ⟨some 60, .nilchk (.t 49), none⟩) ::
   (14, ⟨some 61, .fadr 1 (.t 60), none⟩) ::
   (15, ⟨none, .store 1 (.t 61) (.t 57), none⟩) ::
   []
theorem h9_22_1 : wS fs out b o9_22_1 t h R = (wV fs out (b + 10) noT h (.nilchk (.k (t 48))) fun x58_0 h => wV fs out (b + 11) noT h (.fadr 0 (.k x58_0)) fun x59_1 h => wV fs out (b + 12) noT h (.store 1 (.k x59_1) (.k (t 53))) fun _ h => wV fs out (b + 13) noT h (.nilchk (.k (t 49))) fun x60_3 h => wV fs out (b + 14) noT h (.fadr 1 (.k x60_3)) fun x61_4 h => wV fs out (b + 15) noT h (.store 1 (.k x61_4) (.k (t 57))) fun _ h => R ⟨(upd (upd (upd (upd t 58 x58_0) 59 x59_1) 60 x60_3) 61 x61_4), h⟩) := by kernel_rfl
def o9_22 : List (Nat × AOper) := (0, ⟨some 48, .mov (.t 12), none⟩) ::
   (1, ⟨some 49, .mov (.t 12), none⟩) ::
   (2, ⟨some 50, .mov (.t 12), none⟩) ::
   (3, ⟨some 51, .nilchk (.t 50), none⟩) ::
   (4, ⟨some 52, .fadr 1 (.t 51), none⟩) ::
   (5, ⟨some 53, .load none (.t 52), none⟩) ::
   (6, ⟨some 54, .mov (.t 12), none⟩) ::
   (7, ⟨some 55, .nilchk (.t 54), none⟩) ::
   (8, ⟨some 56, .fadr 0 (.t 55), none⟩) ::
   (9, ⟨some 57, .load none (.t 56), none⟩) ::
   o9_22_1
theorem h9_22 : wS fs out b o9_22 t h R = (wV fs out (b + 0) noT h (.mov (.k (t 12))) fun x48_0 h => wV fs out (b + 1) noT h (.mov (.k (t 12))) fun x49_1 h => wV fs out (b + 2) noT h (.mov (.k (t 12))) fun x50_2 h => wV fs out (b + 3) noT h (.nilchk (.k x50_2)) fun x51_3 h => wV fs out (b + 4) noT h (.fadr 1 (.k x51_3)) fun x52_4 h => wV fs out (b + 5) noT h (.load none (.k x52_4)) fun x53_5 h => wV fs out (b + 6) noT h (.mov (.k (t 12))) fun x54_6 h => wV fs out (b + 7) noT h (.nilchk (.k x54_6)) fun x55_7 h => wV fs out (b + 8) noT h (.fadr 0 (.k x55_7)) fun x56_8 h => wV fs out (b + 9) noT h (.load none (.k x56_8)) fun x57_9 h => wS fs out b o9_22_1 (upd (upd (upd (upd (upd (upd (upd (upd (upd (upd t 48 x48_0) 49 x49_1) 50 x50_2) 51 x51_3) 52 x52_4) 53 x53_5) 54 x54_6) 55 x55_7) 56 x56_8) 57 x57_9) h R) := by kernel_rfl
def c9_22 : ACode := .region (o9_22.map (·.2)) [0, 1, 2, 3, 4, 5, 6, 7, 8, 9, 10, 11, 12, 13, 14, 15] []
theorem s9_22 (h : wS fs out s.h.nx o9_22 s.t ⟨s.h.o, s.h.nx + 16⟩ (Q .normal)) : wC fs out c9_22 s Q := wC_region rfl rfl h
def c9_20 : ACode := .seq c9_21 c9_22
theorem s9_20 (h : wS fs out s.h.nx o9_21 s.t ⟨s.h.o, s.h.nx + 7⟩ fun s1 => wC fs out c9_22 s1 Q) : wC fs out c9_20 s Q := wC_seq (s9_21 h)
def c9_19 : ACode := .cond (.t 41) c9_20 .skip [9, 10, 11]
theorem s9_19 (h : onC (s.t 41) (wC fs out c9_20 s fun e s1 => Q e (keepOnly [9, 10, 11] s1)) (Q .normal (keepOnly [9, 10, 11] s))) : wC fs out c9_19 s Q := wC_condC (by first | exact h | (simp only [wC_skip, wC_exit, wC_ret]; exact h))
def c9_17 : ACode := .seq c9_18 c9_19
theorem s9_17 (h : wS fs out s.h.nx o9_18 s.t ⟨s.h.o, s.h.nx + 3⟩ fun s1 => wC fs out c9_19 s1 Q) : wC fs out c9_17 s Q := wC_seq (s9_18 h)
def o9_24 : List (Nat × AOper) := (0, ⟨some 63, .bin .eql (.t 36) (.k (.v (.one (.int .i64 1)))), none⟩) ::
   (1, ⟨some 62, .mov (.t 63), none⟩) ::
   []
theorem h9_24 : wS fs out b o9_24 t h R = (wV fs out (b + 0) noT h (.bin .eql (.k (t 36)) (.k (.v (.one (.int .i64 1))))) fun x63_0 h => wV fs out (b + 1) noT h (.mov (.k x63_0)) fun x62_1 h => R ⟨(upd (upd t 63 x63_0) 62 x62_1), h⟩) := by kernel_rfl
def c9_24 : ACode := .region (o9_24.map (·.2)) [0, 1] []
theorem s9_24 (h : wS fs out s.h.nx o9_24 s.t ⟨s.h.o, s.h.nx + 2⟩ (Q .normal)) : wC fs out c9_24 s Q := wC_region rfl rfl h
def o9_26_3 : List (Nat × AOper) := (14, ⟨some 10, .mov (.t 77), none⟩) ::
   []
theorem h9_26_3 : wS fs out b o9_26_3 t h R = (wV fs out (b + 14) noT h (.mov (.k (t 77))) fun x10_0 h => R ⟨(upd t 10 x10_0), h⟩) := by kernel_rfl
def o9_26_2 : List (Nat × AOper) := (11, ⟨some 75, .build [(.int .i64 0), (.int .i64 0), (.int .i64 0), (.int .i64 0)] [(0, 1, (.t 69)), (1, 1, (.t 74)), (3, 1, (.k (.v (.one (.int .i64 (-1))))))], none⟩) ::
   (12, ⟨some 76, .bsl 35 4 1 [(.int .i64 0), (.int .i64 0), (.int .i64 0), (.int .i64 0)] [(0, 4, (.t 75))], none⟩) ::
   (13, ⟨some 77, .app 35 4 32 (.t 64) (.t 76), none⟩) ::
   o9_26_3
theorem h9_26_2 : wS fs out b o9_26_2 t h R = (wV fs out (b + 11) noT h (.build [(.int .i64 0), (.int .i64 0), (.int .i64 0), (.int .i64 0)] [(0, 1, (.k (t 69))), (1, 1, (.k (t 74))), (3, 1, (.k (.v (.one (.int .i64 (-1))))))]) fun x75_0 h => wV fs out (b + 12) noT h (.bsl 35 4 1 [(.int .i64 0), (.int .i64 0), (.int .i64 0), (.int .i64 0)] [(0, 4, (.k x75_0))]) fun x76_1 h => wV fs out (b + 13) noT h (.app 35 4 32 (.k (t 64)) (.k x76_1)) fun x77_2 h => wS fs out b o9_26_3 (upd (upd (upd t 75 x75_0) 76 x76_1) 77 x77_2) h R) := by kernel_rfl
def o9_26_1 : List (Nat × AOper) := (6, ⟨some 70, .mov (.t 3), none⟩) ::
   (7, ⟨some 71, .mov (.t 9), none⟩) ::
   (8, ⟨some 72, .len (.t 71), none⟩) ::
   (9, ⟨some 73, .bin .add (.t 72) (.k (.v (.one (.int .i64 1)))), none⟩) ::
   (10, ⟨some 74, .call 15 [(.t 70), (.t 73)], none⟩) ::
   o9_26_2
theorem h9_26_1 : wS fs out b o9_26_1 t h R = (wV fs out (b + 6) noT h (.mov (.k (t 3))) fun x70_0 h => wV fs out (b + 7) noT h (.mov (.k (t 9))) fun x71_1 h => wV fs out (b + 8) noT h (.len (.k x71_1)) fun x72_2 h => wV fs out (b + 9) noT h (.bin .add (.k x72_2) (.k (.v (.one (.int .i64 1))))) fun x73_3 h => wV fs out (b + 10) noT h (.call 15 [(.k x70_0), (.k x73_3)]) fun x74_4 h => wS fs out b o9_26_2 (upd (upd (upd (upd (upd t 70 x70_0) 71 x71_1) 72 x72_2) 73 x73_3) 74 x74_4) h R) := by kernel_rfl
def o9_26 : List (Nat × AOper) := (0, ⟨some 64, .mov (.t 10), none⟩) ::
   (1, ⟨some 65, .mov (.t 2), none⟩) ::
   (2, ⟨some 66, .mov (.t 9), none⟩) ::
   (3, ⟨some 67, .len (.t 66), none⟩) ::
   (4, ⟨some 68, .bin .add (.t 67) (.k (.v (.one (.int .i64 1)))), none⟩) ::
   (5, ⟨some 69, .call 15 [(.t 65), (.t 68)], none⟩) ::
   o9_26_1
theorem h9_26 : wS fs out b o9_26 t h R = (wV fs out (b + 0) noT h (.mov (.k (t 10))) fun x64_0 h => wV fs out (b + 1) noT h (.mov (.k (t 2))) fun x65_1 h => wV fs out (b + 2) noT h (.mov (.k (t 9))) fun x66_2 h => wV fs out (b + 3) noT h (.len (.k x66_2)) fun x67_3 h => wV fs out (b + 4) noT h (.bin .add (.k x67_3) (.k (.v (.one (.int .i64 1))))) fun x68_4 h => wV fs out (b + 5) noT h (.call 15 [(.k x65_1), (.k x68_4)]) fun x69_5 h => wS fs out b o9_26_1 (upd (upd (upd (upd (upd (upd t 64 x64_0) 65 x65_1) 66 x66_2) 67 x67_3) 68 x68_4) 69 x69_5) h R) := by kernel_rfl
def c9_26 : ACode := .region (o9_26.map (·.2)) [0, 1, 2, 3, 4, 5, 6, 7, 8, 9, 10, 11, 12, 13, 14] []
theorem s9_26 (h : wS fs out s.h.nx o9_26 s.t ⟨s.h.o, s.h.nx + 15⟩ (Q .normal)) : wC fs out c9_26 s Q := wC_region rfl rfl h
def o9_28 : List (Nat × AOper) := (0, ⟨some 79, .bin .eql (.t 36) (.k (.v (.one (.int .i64 2)))), none⟩) ::
   (1, ⟨some 78, .mov (.t 79), none⟩) ::
   []
theorem h9_28 : wS fs out b o9_28 t h R = (wV fs out (b + 0) noT h (.bin .eql (.k (t 36)) (.k (.v (.one (.int .i64 2))))) fun x79_0 h => wV fs out (b + 1) noT h (.mov (.k x79_0)) fun x78_1 h => R ⟨(upd (upd t 79 x79_0) 78 x78_1), h⟩) := by kernel_rfl
def c9_28 : ACode := .region (o9_28.map (·.2)) [0, 1] []
theorem s9_28 (h : wS fs out s.h.nx o9_28 s.t ⟨s.h.o, s.h.nx + 2⟩ (Q .normal)) : wC fs out c9_28 s Q := wC_region rfl rfl h
def o9_30_3 : List (Nat × AOper) := (12, ⟨some 11, .mov (.t 91), none⟩) ::
   []
theorem h9_30_3 : wS fs out b o9_30_3 t h R = (wV fs out (b + 12) noT h (.mov (.k (t 91))) fun x11_0 h => R ⟨(upd t 11 x11_0), h⟩) := by kernel_rfl
def o9_30_2 : List (Nat × AOper) := (9, ⟨some 89, .build [(.int .i64 0), (.int .i64 0)] [(0, 1, (.t 86)), (1, 1, (.t 88))], none⟩) ::
   (10, ⟨some 90, .bsl 39 2 1 [(.int .i64 0), (.int .i64 0)] [(0, 2, (.t 89))], none⟩) ::
   (11, ⟨some 91, .app 39 2 16 (.t 80) (.t 90), none⟩) ::
   o9_30_3
theorem h9_30_2 : wS fs out b o9_30_2 t h R = (wV fs out (b + 9) noT h (.build [(.int .i64 0), (.int .i64 0)] [(0, 1, (.k (t 86))), (1, 1, (.k (t 88)))]) fun x89_0 h => wV fs out (b + 10) noT h (.bsl 39 2 1 [(.int .i64 0), (.int .i64 0)] [(0, 2, (.k x89_0))]) fun x90_1 h => wV fs out (b + 11) noT h (.app 39 2 16 (.k (t 80)) (.k x90_1)) fun x91_2 h => wS fs out b o9_30_3 (upd (upd (upd t 89 x89_0) 90 x90_1) 91 x91_2) h R) := by kernel_rfl
def o9_30_1 : List (Nat × AOper) := (6, ⟨some 86, .bin .sub (.t 85) (.k (.v (.one (.int .i64 1)))), none⟩) ::
   (7, ⟨some 87, .mov (.t 3), none⟩) ::
   (8, ⟨some 88, .call 15 [(.t 87), (.k (.v (.one (.int .i64 9))))], none⟩) ::
   o9_30_2
theorem h9_30_1 : wS fs out b o9_30_1 t h R = (wV fs out (b + 6) noT h (.bin .sub (.k (t 85)) (.k (.v (.one (.int .i64 1))))) fun x86_0 h => wV fs out (b + 7) noT h (.mov (.k (t 3))) fun x87_1 h => wV fs out (b + 8) noT h (.call 15 [(.k x87_1), (.k (.v (.one (.int .i64 9))))]) fun x88_2 h => wS fs out b o9_30_2 (upd (upd (upd t 86 x86_0) 87 x87_1) 88 x88_2) h R) := by kernel_rfl
def o9_30 : List (Nat × AOper) := (0, ⟨some 80, .mov (.t 11), none⟩) ::
   (1, ⟨some 81, .mov (.t 2), none⟩) ::
   (2, ⟨some 82, .mov (.t 9), none⟩) ::
   (3, ⟨some 83, .len (.t 82), none⟩) ::
   (4, ⟨some 84, .bin .add (.t 83) (.k (.v (.one (.int .i64 2)))), none⟩) ::
   (5, ⟨some 85, .call 15 [(.t 81), (.t 84)], none⟩) ::
   o9_30_1
theorem h9_30 : wS fs out b o9_30 t h R = (wV fs out (b + 0) noT h (.mov (.k (t 11))) fun x80_0 h => wV fs out (b + 1) noT h (.mov (.k (t 2))) fun x81_1 h => wV fs out (b + 2) noT h (.mov (.k (t 9))) fun x82_2 h => wV fs out (b + 3) noT h (.len (.k x82_2)) fun x83_3 h => wV fs out (b + 4) noT h (.bin .add (.k x83_3) (.k (.v (.one (.int .i64 2))))) fun x84_4 h => wV fs out (b + 5) noT h (.call 15 [(.k x81_1), (.k x84_4)]) fun x85_5 h => wS fs out b o9_30_1 (upd (upd (upd (upd (upd (upd t 80 x80_0) 81 x81_1) 82 x82_2) 83 x83_3) 84 x84_4) 85 x85_5) h R) := by kernel_rfl
def c9_30 : ACode := .region (o9_30.map (·.2)) [0, 1, 2, 3, 4, 5, 6, 7, 8, 9, 10, 11, 12] []
theorem s9_30 (h : wS fs out s.h.nx o9_30 s.t ⟨s.h.o, s.h.nx + 13⟩ (Q .normal)) : wC fs out c9_30 s Q := wC_region rfl rfl h
def o9_32 : List (Nat × AOper) := (0, ⟨some 93, .bin .eql (.t 36) (.k (.v (.one (.int .i64 3)))), none⟩) ::
   (1, ⟨some 92, .mov (.t 93), none⟩) ::
   []
theorem h9_32 : wS fs out b o9_32 t h R = (wV fs out (b + 0) noT h (.bin .eql (.k (t 36)) (.k (.v (.one (.int .i64 3))))) fun x93_0 h => wV fs out (b + 1) noT h (.mov (.k x93_0)) fun x92_1 h => R ⟨(upd (upd t 93 x93_0) 92 x92_1), h⟩) := by kernel_rfl
def c9_32 : ACode := .region (o9_32.map (·.2)) [0, 1] []
theorem s9_32 (h : wS fs out s.h.nx o9_32 s.t ⟨s.h.o, s.h.nx + 2⟩ (Q .normal)) : wC fs out c9_32 s Q := wC_region rfl rfl h
def o9_34_2 : List (Nat × AOper) := (7, ⟨some 101, .bin .sub (.t 100) (.k (.v (.one (.int .i64 1)))), none⟩) ::
   (8, ⟨some 102, .iadr 2 (.t 94) (.t 98), none⟩) ::
   (9, ⟨some 103, .fadr 0 (.t 102), none⟩) ::
   (10, ⟨none, .store 1 (.t 103) (.t 101), none⟩) ::
   []
theorem h9_34_2 : wS fs out b o9_34_2 t h R = (wV fs out (b + 7) noT h (.bin .sub (.k (t 100)) (.k (.v (.one (.int .i64 1))))) fun x101_0 h => wV fs out (b + 8) noT h (.iadr 2 (.k (t 94)) (.k (t 98))) fun x102_1 h => wV fs out (b + 9) noT h (.fadr 0 (.k x102_1)) fun x103_2 h => wV fs out (b + 10) noT h (.store 1 (.k x103_2) (.k x101_0)) fun _ h => R ⟨(upd (upd (upd t 101 x101_0) 102 x102_1) 103 x103_2), h⟩) := by kernel_rfl
def o9_34_1 : List (Nat × AOper) := (5, ⟨some 99, .mov (.t 3), none⟩) ::
   (6, ⟨some 100, .call 15 [(.t 99), (.k (.v (.one (.int .i64 300))))], none⟩) ::
   o9_34_2
theorem h9_34_1 : wS fs out b o9_34_1 t h R = (wV fs out (b + 5) noT h (.mov (.k (t 3))) fun x99_0 h => wV fs out (b + 6) noT h (.call 15 [(.k x99_0), (.k (.v (.one (.int .i64 300))))]) fun x100_1 h => wS fs out b o9_34_2 (upd (upd t 99 x99_0) 100 x100_1) h R) := by kernel_rfl
def o9_34 : List (Nat × AOper) := (0, ⟨some 94, .mov (.t 9), none⟩) ::
   (1, ⟨some 95, .mov (.t 2), none⟩) ::
   (2, ⟨some 96, .mov (.t 9), none⟩) ::
   (3, ⟨some 97, .len (.t 96), none⟩) ::
   (4, ⟨some 98, .call 15 [(.t 95), (.t 97)], none⟩) ::
   o9_34_1
theorem h9_34 : wS fs out b o9_34 t h R = (wV fs out (b + 0) noT h (.mov (.k (t 9))) fun x94_0 h => wV fs out (b + 1) noT h (.mov (.k (t 2))) fun x95_1 h => wV fs out (b + 2) noT h (.mov (.k (t 9))) fun x96_2 h => wV fs out (b + 3) noT h (.len (.k x96_2)) fun x97_3 h => wV fs out (b + 4) noT h (.call 15 [(.k x95_1), (.k x97_3)]) fun x98_4 h => wS fs out b o9_34_1 (upd (upd (upd (upd (upd t 94 x94_0) 95 x95_1) 96 x96_2) 97 x97_3) 98 x98_4) h R) := by kernel_rfl
def c9_34 : ACode := .region (o9_34.map (·.2)) [0, 1, 2, 3, 4, 5, 6, 7, 8, 9, 10] []
theorem s9_34 (h : wS fs out s.h.nx o9_34 s.t ⟨s.h.o, s.h.nx + 11⟩ (Q .normal)) : wC fs out c9_34 s Q := wC_region rfl rfl h
def c9_33 : ACode := .cond (.t 92) c9_34 .skip [9, 10, 11]
theorem s9_33 (h : onC (s.t 92) (wC fs out c9_34 s fun e s1 => Q e (keepOnly [9, 10, 11] s1)) (Q .normal (keepOnly [9, 10, 11] s))) : wC fs out c9_33 s Q := wC_condC (by first | exact h | (simp only [wC_skip, wC_exit, wC_ret]; exact h))
def c9_31 : ACode := .seq c9_32 c9_33
theorem s9_31 (h : wS fs out s.h.nx o9_32 s.t ⟨s.h.o, s.h.nx + 2⟩ fun s1 => wC fs out c9_33 s1 Q) : wC fs out c9_31 s Q := wC_seq (s9_32 h)
def c9_29 : ACode := .cond (.t 78) c9_30 c9_31 [9, 10, 11]
theorem s9_29 (h : onC (s.t 78) (wC fs out c9_30 s fun e s1 => Q e (keepOnly [9, 10, 11] s1)) (wC fs out c9_31 s fun e s1 => Q e (keepOnly [9, 10, 11] s1))) : wC fs out c9_29 s Q := wC_condC (by first | exact h | (simp only [wC_skip, wC_exit, wC_ret]; exact h))
def c9_27 : ACode := .seq c9_28 c9_29
theorem s9_27 (h : wS fs out s.h.nx o9_28 s.t ⟨s.h.o, s.h.nx + 2⟩ fun s1 => wC fs out c9_29 s1 Q) : wC fs out c9_27 s Q := wC_seq (s9_28 h)
def c9_25 : ACode := .cond (.t 62) c9_26 c9_27 [9, 10, 11]
theorem s9_25 (h : onC (s.t 62) (wC fs out c9_26 s fun e s1 => Q e (keepOnly [9, 10, 11] s1)) (wC fs out c9_27 s fun e s1 => Q e (keepOnly [9, 10, 11] s1))) : wC fs out c9_25 s Q := wC_condC (by first | exact h | (simp only [wC_skip, wC_exit, wC_ret]; exact h))
def c9_23 : ACode := .seq c9_24 c9_25
theorem s9_23 (h : wS fs out s.h.nx o9_24 s.t ⟨s.h.o, s.h.nx + 2⟩ fun s1 => wC fs out c9_25 s1 Q) : wC fs out c9_23 s Q := wC_seq (s9_24 h)
def c9_16 : ACode := .cond (.t 37) c9_17 c9_23 [9, 10, 11]
theorem s9_16 (h : onC (s.t 37) (wC fs out c9_17 s fun e s1 => Q e (keepOnly [9, 10, 11] s1)) (wC fs out c9_23 s fun e s1 => Q e (keepOnly [9, 10, 11] s1))) : wC fs out c9_16 s Q := wC_condC (by first | exact h | (simp only [wC_skip, wC_exit, wC_ret]; exact h))
def c9_14 : ACode := .seq c9_15 c9_16
theorem s9_14 (h : wS fs out s.h.nx o9_15 s.t ⟨s.h.o, s.h.nx + 2⟩ fun s1 => wC fs out c9_16 s1 Q) : wC fs out c9_14 s Q := wC_seq (s9_15 h)
def c9_13 : ACode := .block 0 c9_14
theorem s9_13 (h : wC fs out c9_14 s fun e s1 => Q (if e = .exit 0 then .normal else e) s1) : wC fs out c9_13 s Q := wC_block h
def c9_11 : ACode := .seq c9_12 c9_13
theorem s9_11 (h : wS fs out s.h.nx o9_12 s.t ⟨s.h.o, s.h.nx + 2⟩ fun s1 => wC fs out c9_13 s1 Q) : wC fs out c9_11 s Q := wC_seq (s9_12 h)
def o9_36_1 : List (Nat × AOper) := (4, ⟨some 104, .mov (.t 108), none⟩) ::
   (5, ⟨some 109, .ext 0 (.t 104), none⟩) ::
   (6, ⟨some 110, .ext 1 (.t 104), none⟩) ::
   (7, ⟨some 111, .ext 2 (.t 104), none⟩) ::
   (8, ⟨some 13, .mov (.t 109), none⟩) ::
   (9, ⟨some 14, .mov (.t 110), none⟩) ::
   (10, ⟨some 15, .mov (.t 111), none⟩) ::
   []
theorem h9_36_1 : wS fs out b o9_36_1 t h R = (wV fs out (b + 4) noT h (.mov (.k (t 108))) fun x104_0 h => wV fs out (b + 5) noT h (.ext 0 (.k x104_0)) fun x109_1 h => wV fs out (b + 6) noT h (.ext 1 (.k x104_0)) fun x110_2 h => wV fs out (b + 7) noT h (.ext 2 (.k x104_0)) fun x111_3 h => wV fs out (b + 8) noT h (.mov (.k x109_1)) fun x13_4 h => wV fs out (b + 9) noT h (.mov (.k x110_2)) fun x14_5 h => wV fs out (b + 10) noT h (.mov (.k x111_3)) fun x15_6 h => R ⟨(upd (upd (upd (upd (upd (upd (upd t 104 x104_0) 109 x109_1) 110 x110_2) 111 x111_3) 13 x13_4) 14 x14_5) 15 x15_6), h⟩) := by kernel_rfl
def o9_36 : List (Nat × AOper) := (0, ⟨some 105, .mov (.t 9), none⟩) ::
   (1, ⟨some 106, .mov (.t 10), none⟩) ::
   (2, ⟨some 107, .mov (.t 11), none⟩) ::
   (3, ⟨some 108, .call 13 [(.t 105), (.t 106), (.t 107)], none⟩) ::
   o9_36_1
theorem h9_36 : wS fs out b o9_36 t h R = (wV fs out (b + 0) noT h (.mov (.k (t 9))) fun x105_0 h => wV fs out (b + 1) noT h (.mov (.k (t 10))) fun x106_1 h => wV fs out (b + 2) noT h (.mov (.k (t 11))) fun x107_2 h => wV fs out (b + 3) noT h (.call 13 [(.k x105_0), (.k x106_1), (.k x107_2)]) fun x108_3 h => wS fs out b o9_36_1 (upd (upd (upd (upd t 105 x105_0) 106 x106_1) 107 x107_2) 108 x108_3) h R) := by kernel_rfl
def c9_36 : ACode := .region (o9_36.map (·.2)) [0, 1, 2, 3, 4, 5, 6, 7, 8, 9, 10] []
theorem s9_36 (h : wS fs out s.h.nx o9_36 s.t ⟨s.h.o, s.h.nx + 11⟩ (Q .normal)) : wC fs out c9_36 s Q := wC_region rfl rfl h
def o9_38_1 : List (Nat × AOper) := (4, ⟨some 112, .mov (.t 116), none⟩) ::
   (5, ⟨some 117, .ext 0 (.t 112), none⟩) ::
   (6, ⟨some 118, .ext 1 (.t 112), none⟩) ::
   (7, ⟨some 119, .ext 2 (.t 112), none⟩) ::
   (8, ⟨some 16, .mov (.t 117), none⟩) ::
   (9, ⟨some 17, .mov (.t 118), none⟩) ::
   (10, ⟨some 18, .mov (.t 119), none⟩) ::
   []
theorem h9_38_1 : wS fs out b o9_38_1 t h R = (wV fs out (b + 4) noT h (.mov (.k (t 116))) fun x112_0 h => wV fs out (b + 5) noT h (.ext 0 (.k x112_0)) fun x117_1 h => wV fs out (b + 6) noT h (.ext 1 (.k x112_0)) fun x118_2 h => wV fs out (b + 7) noT h (.ext 2 (.k x112_0)) fun x119_3 h => wV fs out (b + 8) noT h (.mov (.k x117_1)) fun x16_4 h => wV fs out (b + 9) noT h (.mov (.k x118_2)) fun x17_5 h => wV fs out (b + 10) noT h (.mov (.k x119_3)) fun x18_6 h => R ⟨(upd (upd (upd (upd (upd (upd (upd t 112 x112_0) 117 x117_1) 118 x118_2) 119 x119_3) 16 x16_4) 17 x17_5) 18 x18_6), h⟩) := by kernel_rfl
def o9_38 : List (Nat × AOper) := (0, ⟨some 113, .mov (.t 9), none⟩) ::
   (1, ⟨some 114, .mov (.t 10), none⟩) ::
   (2, ⟨some 115, .mov (.t 11), none⟩) ::
   (3, ⟨some 116, .call 16 [(.t 113), (.t 114), (.t 115)], none⟩) ::
   o9_38_1
theorem h9_38 : wS fs out b o9_38 t h R = (wV fs out (b + 0) noT h (.mov (.k (t 9))) fun x113_0 h => wV fs out (b + 1) noT h (.mov (.k (t 10))) fun x114_1 h => wV fs out (b + 2) noT h (.mov (.k (t 11))) fun x115_2 h => wV fs out (b + 3) noT h (.call 16 [(.k x113_0), (.k x114_1), (.k x115_2)]) fun x116_3 h => wS fs out b o9_38_1 (upd (upd (upd (upd t 113 x113_0) 114 x114_1) 115 x115_2) 116 x116_3) h R) := by kernel_rfl
def c9_38 : ACode := .region (o9_38.map (·.2)) [0, 1, 2, 3, 4, 5, 6, 7, 8, 9, 10] []
theorem s9_38 (h : wS fs out s.h.nx o9_38 s.t ⟨s.h.o, s.h.nx + 11⟩ (Q .normal)) : wC fs out c9_38 s Q := wC_region rfl rfl h
def o9_41 : List (Nat × AOper) := (0, ⟨some 120, .mov (.t 9), none⟩) ::
   (1, ⟨some 121, .len (.t 120), none⟩) ::
   (2, ⟨some 122, .mov (.k (.v (.one (.int .i64 0)))), none⟩) ::
   []
theorem h9_41 : wS fs out b o9_41 t h R = (wV fs out (b + 0) noT h (.mov (.k (t 9))) fun x120_0 h => wV fs out (b + 1) noT h (.len (.k x120_0)) fun x121_1 h => wV fs out (b + 2) noT h (.mov (.k (.v (.one (.int .i64 0))))) fun x122_2 h => R ⟨(upd (upd (upd t 120 x120_0) 121 x121_1) 122 x122_2), h⟩) := by kernel_rfl
def c9_41 : ACode := .region (o9_41.map (·.2)) [0, 1, 2] []
theorem s9_41 (h : wS fs out s.h.nx o9_41 s.t ⟨s.h.o, s.h.nx + 3⟩ (Q .normal)) : wC fs out c9_41 s Q := wC_region rfl rfl h
def o9_45 : List (Nat × AOper) := (0, ⟨some 123, .bin .lss (.t 122) (.t 121), none⟩) ::
   []
theorem h9_45 : wS fs out b o9_45 t h R = (wV fs out (b + 0) noT h (.bin .lss (.k (t 122)) (.k (t 121))) fun x123_0 h => R ⟨(upd t 123 x123_0), h⟩) := by kernel_rfl
def c9_45 : ACode := .region (o9_45.map (·.2)) [0] []
theorem s9_45 (h : wS fs out s.h.nx o9_45 s.t ⟨s.h.o, s.h.nx + 1⟩ (Q .normal)) : wC fs out c9_45 s Q := wC_region rfl rfl h
def c9_47 : ACode := .cond (.t 123) .skip (.exit 1) [9, 10, 11, 13, 14, 15, 16, 17, 18, 121, 122]
theorem s9_47 (h : onC (s.t 123) (Q .normal (keepOnly [9, 10, 11, 13, 14, 15, 16, 17, 18, 121, 122] s)) (Q (.exit 1) (keepOnly [9, 10, 11, 13, 14, 15, 16, 17, 18, 121, 122] s))) : wC fs out c9_47 s Q := wC_condC (by first | exact h | (simp only [wC_skip, wC_exit, wC_ret]; exact h))
def o9_51 : List (Nat × AOper) := (0, ⟨some 124, .mov (.t 122), none⟩) ::
   (1, ⟨some 19, .mov (.t 124), none⟩) ::
   []
theorem h9_51 : wS fs out b o9_51 t h R = (wV fs out (b + 0) noT h (.mov (.k (t 122))) fun x124_0 h => wV fs out (b + 1) noT h (.mov (.k x124_0)) fun x19_1 h => R ⟨(upd (upd t 124 x124_0) 19 x19_1), h⟩) := by kernel_rfl
def c9_51 : ACode := .region (o9_51.map (·.2)) [0, 1] []
theorem s9_51 (h : wS fs out s.h.nx o9_51 s.t ⟨s.h.o, s.h.nx + 2⟩ (Q .normal)) : wC fs out c9_51 s Q := wC_region rfl rfl h
def o9_53_1 : List (Nat × AOper) := (5, ⟨some 125, .mov (.t 130), none⟩) ::
   (6, ⟨some 131, .ext 0 (.t 125), none⟩) ::
   (7, ⟨some 132, .ext 1 (.t 125), none⟩) ::
   (8, ⟨some 20, .mov (.t 131), none⟩) ::
   (9, ⟨some 21, .mov (.t 132), none⟩) ::
   []
theorem h9_53_1 : wS fs out b o9_53_1 t h R = (wV fs out (b + 5) noT h (.mov (.k (t 130))) fun x125_0 h => wV fs out (b + 6) noT h (.ext 0 (.k x125_0)) fun x131_1 h => wV fs out (b + 7) noT h (.ext 1 (.k x125_0)) fun x132_2 h => wV fs out (b + 8) noT h (.mov (.k x131_1)) fun x20_3 h => wV fs out (b + 9) noT h (.mov (.k x132_2)) fun x21_4 h => R ⟨(upd (upd (upd (upd (upd t 125 x125_0) 131 x131_1) 132 x132_2) 20 x20_3) 21 x21_4), h⟩) := by kernel_rfl
def o9_53 : List (Nat × AOper) := (0, ⟨some 126, .mov (.t 9), none⟩) ::
   (1, ⟨some 127, .mov (.t 10), none⟩) ::
   (2, ⟨some 128, .mov (.t 11), none⟩) ::
   (3, ⟨some 129, .mov (.t 19), none⟩) ::
   (4, ⟨some 130, .call 20 [(.t 126), (.t 127), (.t 128), (.t 129)], none⟩) ::
   o9_53_1
theorem h9_53 : wS fs out b o9_53 t h R = (wV fs out (b + 0) noT h (.mov (.k (t 9))) fun x126_0 h => wV fs out (b + 1) noT h (.mov (.k (t 10))) fun x127_1 h => wV fs out (b + 2) noT h (.mov (.k (t 11))) fun x128_2 h => wV fs out (b + 3) noT h (.mov (.k (t 19))) fun x129_3 h => wV fs out (b + 4) noT h (.call 20 [(.k x126_0), (.k x127_1), (.k x128_2), (.k x129_3)]) fun x130_4 h => wS fs out b o9_53_1 (upd (upd (upd (upd (upd t 126 x126_0) 127 x127_1) 128 x128_2) 129 x129_3) 130 x130_4) h R) := by kernel_rfl
def c9_53 : ACode := .region (o9_53.map (·.2)) [0, 1, 2, 3, 4, 5, 6, 7, 8, 9] []
theorem s9_53 (h : wS fs out s.h.nx o9_53 s.t ⟨s.h.o, s.h.nx + 10⟩ (Q .normal)) : wC fs out c9_53 s Q := wC_region rfl rfl h
def o9_55_1 : List (Nat × AOper) := (5, ⟨some 133, .mov (.t 138), none⟩) ::
   (6, ⟨some 139, .ext 0 (.t 133), none⟩) ::
   (7, ⟨some 140, .ext 1 (.t 133), none⟩) ::
   (8, ⟨some 22, .mov (.t 139), none⟩) ::
   (9, ⟨some 23, .mov (.t 140), none⟩) ::
   []
theorem h9_55_1 : wS fs out b o9_55_1 t h R = (wV fs out (b + 5) noT h (.mov (.k (t 138))) fun x133_0 h => wV fs out (b + 6) noT h (.ext 0 (.k x133_0)) fun x139_1 h => wV fs out (b + 7) noT h (.ext 1 (.k x133_0)) fun x140_2 h => wV fs out (b + 8) noT h (.mov (.k x139_1)) fun x22_3 h => wV fs out (b + 9) noT h (.mov (.k x140_2)) fun x23_4 h => R ⟨(upd (upd (upd (upd (upd t 133 x133_0) 139 x139_1) 140 x140_2) 22 x22_3) 23 x23_4), h⟩) := by kernel_rfl
def o9_55 : List (Nat × AOper) := (0, ⟨some 134, .mov (.t 9), none⟩) ::
   (1, ⟨some 135, .mov (.t 10), none⟩) ::
   (2, ⟨some 136, .mov (.t 11), none⟩) ::
   (3, ⟨some 137, .mov (.t 19), none⟩) ::
   (4, ⟨some 138, .call 21 [(.t 134), (.t 135), (.t 136), (.t 137)], none⟩) ::
   o9_55_1
theorem h9_55 : wS fs out b o9_55 t h R = (wV fs out (b + 0) noT h (.mov (.k (t 9))) fun x134_0 h => wV fs out (b + 1) noT h (.mov (.k (t 10))) fun x135_1 h => wV fs out (b + 2) noT h (.mov (.k (t 11))) fun x136_2 h => wV fs out (b + 3) noT h (.mov (.k (t 19))) fun x137_3 h => wV fs out (b + 4) noT h (.call 21 [(.k x134_0), (.k x135_1), (.k x136_2), (.k x137_3)]) fun x138_4 h => wS fs out b o9_55_1 (upd (upd (upd (upd (upd t 134 x134_0) 135 x135_1) 136 x136_2) 137 x137_3) 138 x138_4) h R) := by kernel_rfl
def c9_55 : ACode := .region (o9_55.map (·.2)) [0, 1, 2, 3, 4, 5, 6, 7, 8, 9] []
theorem s9_55 (h : wS fs out s.h.nx o9_55 s.t ⟨s.h.o, s.h.nx + 10⟩ (Q .normal)) : wC fs out c9_55 s Q := wC_region rfl rfl h
def o9_57_3 : List (Nat × AOper) := (8, ⟨some 149, .pick (.t 145) (.k (.v (.one (.bool true)))) (.t 148), none⟩) ::
   []
theorem h9_57_3 : wS fs out b o9_57_3 t h R = (wV fs out (b + 8) noT h (.pick (.k (t 145)) (.k (.v (.one (.bool true)))) (.k (t 148))) fun x149_0 h => R ⟨(upd t 149 x149_0), h⟩) := by kernel_rfl
def o9_57_2g : List (Nat × AOper) := (5, ⟨some 146, .mov (.t 21), none⟩) ::
   (6, ⟨some 147, .mov (.t 23), none⟩) ::
   (7, ⟨some 148, .bin .neq (.t 146) (.t 147), none⟩) ::
   []
theorem h9_57_2g : wS fs out b o9_57_2g t h R = (wV fs out (b + 5) noT h (.mov (.k (t 21))) fun x146_0 h => wV fs out (b + 6) noT h (.mov (.k (t 23))) fun x147_1 h => wV fs out (b + 7) noT h (.bin .neq (.k x146_0) (.k x147_1)) fun x148_2 h => R ⟨(upd (upd (upd t 146 x146_0) 147 x147_1) 148 x148_2), h⟩) := by kernel_rfl
def o9_57_2 : List (Nat × AOper) := grp 145 false o9_57_2g o9_57_3
theorem w9_57_2 : wS fs out b o9_57_2 t h R = onG (t 145) false (wS fs out b o9_57_2g (upd t 145 (.v (.one (.bool false)))) h fun s => wS fs out b o9_57_3 s.t s.h R) (wS fs out b o9_57_3 (upd (upd (upd (upd t 145 (.v (.one (.bool true)))) 146 (.tup [])) 147 (.tup [])) 148 (.tup [])) h R) (wS fs out b o9_57_3 (upd (upd (upd t 146 (.tup [])) 147 (.tup [])) 148 (.tup [])) h R) := wS_grpE rfl
def o9_57_1 : List (Nat × AOper) := (3, ⟨some 144, .not (.t 143), none⟩) ::
   (4, ⟨some 145, .mov (.t 144), none⟩) ::
   o9_57_2
theorem h9_57_1 : wS fs out b o9_57_1 t h R = (wV fs out (b + 3) noT h (.not (.k (t 143))) fun x144_0 h => wV fs out (b + 4) noT h (.mov (.k x144_0)) fun x145_1 h => wS fs out b o9_57_2 (upd (upd t 144 x144_0) 145 x145_1) h R) := by kernel_rfl
def o9_57 : List (Nat × AOper) := (0, ⟨some 141, .mov (.t 20), none⟩) ::
   (1, ⟨some 142, .mov (.t 22), none⟩) ::
   (2, ⟨some 143, .call 19 [(.t 141), (.t 142)], none⟩) ::
   o9_57_1
theorem h9_57 : wS fs out b o9_57 t h R = (wV fs out (b + 0) noT h (.mov (.k (t 20))) fun x141_0 h => wV fs out (b + 1) noT h (.mov (.k (t 22))) fun x142_1 h => wV fs out (b + 2) noT h (.call 19 [(.k x141_0), (.k x142_1)]) fun x143_2 h => wS fs out b o9_57_1 (upd (upd (upd t 141 x141_0) 142 x142_1) 143 x143_2) h R) := by kernel_rfl
def c9_57 : ACode := .region (o9_57.map (·.2)) [0, 1, 2, 3, 4, 5, 6, 7, 8] []
theorem s9_57 (h : wS fs out s.h.nx o9_57 s.t ⟨s.h.o, s.h.nx + 9⟩ (Q .normal)) : wC fs out c9_57 s Q := wC_region rfl rfl h
def o9_60 : List (Nat × AOper) := (0, ⟨some 8, .mov (.k (.v (.one (.bool false)))), none⟩) ::
   []
theorem h9_60 : wS fs out b o9_60 t h R = (wV fs out (b + 0) noT h (.mov (.k (.v (.one (.bool false))))) fun x8_0 h => R ⟨(upd t 8 x8_0), h⟩) := by kernel_rfl
def c9_60 : ACode := .region (o9_60.map (·.2)) [0] []
theorem s9_60 (h : wS fs out s.h.nx o9_60 s.t ⟨s.h.o, s.h.nx + 1⟩ (Q .normal)) : wC fs out c9_60 s Q := wC_region rfl rfl h
def c9_59 : ACode := .seq c9_60 .ret
theorem s9_59 (h : wS fs out s.h.nx o9_60 s.t ⟨s.h.o, s.h.nx + 1⟩ fun s1 => wC fs out .ret s1 Q) : wC fs out c9_59 s Q := wC_seq (s9_60 h)
def c9_58 : ACode := .cond (.t 149) c9_59 .skip [8, 9, 10, 11, 13, 14, 15, 16, 17, 18, 121, 122]
theorem s9_58 (h : onC (s.t 149) (wC fs out c9_59 s fun e s1 => Q e (keepOnly [8, 9, 10, 11, 13, 14, 15, 16, 17, 18, 121, 122] s1)) (Q .normal (keepOnly [8, 9, 10, 11, 13, 14, 15, 16, 17, 18, 121, 122] s))) : wC fs out c9_58 s Q := wC_condC (by first | exact h | (simp only [wC_skip, wC_exit, wC_ret]; exact h))
def c9_56 : ACode := .seq c9_57 c9_58
theorem s9_56 (h : wS fs out s.h.nx o9_57 s.t ⟨s.h.o, s.h.nx + 9⟩ fun s1 => wC fs out c9_58 s1 Q) : wC fs out c9_56 s Q := wC_seq (s9_57 h)
def c9_54 : ACode := .seq c9_55 c9_56
theorem s9_54 (h : wS fs out s.h.nx o9_55 s.t ⟨s.h.o, s.h.nx + 10⟩ fun s1 => wC fs out c9_56 s1 Q) : wC fs out c9_54 s Q := wC_seq (s9_55 h)
def c9_52 : ACode := .seq c9_53 c9_54
theorem s9_52 (h : wS fs out s.h.nx o9_53 s.t ⟨s.h.o, s.h.nx + 10⟩ fun s1 => wC fs out c9_54 s1 Q) : wC fs out c9_52 s Q := wC_seq (s9_53 h)
def c9_50 : ACode := .seq c9_51 c9_52
theorem s9_50 (h : wS fs out s.h.nx o9_51 s.t ⟨s.h.o, s.h.nx + 2⟩ fun s1 => wC fs out c9_52 s1 Q) : wC fs out c9_50 s Q := wC_seq (s9_51 h)
def c9_49 : ACode := .block 2 c9_50
theorem s9_49 (h : wC fs out c9_50 s fun e s1 => Q (if e = .exit 2 then .normal else e) s1) : wC fs out c9_49 s Q := wC_block h
def o9_61 : List (Nat × AOper) := (0, ⟨some 150, .bin .add (.t 122) (.k (.v (.one (.int .i64 1)))), none⟩) ::
   (1, ⟨some 122, .mov (.t 150), none⟩) ::
   []
theorem h9_61 : wS fs out b o9_61 t h R = (wV fs out (b + 0) noT h (.bin .add (.k (t 122)) (.k (.v (.one (.int .i64 1))))) fun x150_0 h => wV fs out (b + 1) noT h (.mov (.k x150_0)) fun x122_1 h => R ⟨(upd (upd t 150 x150_0) 122 x122_1), h⟩) := by kernel_rfl
def c9_61 : ACode := .region (o9_61.map (·.2)) [0, 1] []
theorem s9_61 (h : wS fs out s.h.nx o9_61 s.t ⟨s.h.o, s.h.nx + 2⟩ (Q .normal)) : wC fs out c9_61 s Q := wC_region rfl rfl h
def c9_48 : ACode := .seq c9_49 c9_61
theorem s9_48 (h : wC fs out c9_49 s fun e s1 => match e with | .normal => wC fs out c9_61 s1 Q | e => Q e s1) : wC fs out c9_48 s Q := wC_seq h
def c9_46 : ACode := .seq c9_47 c9_48
theorem s9_46 (h : onC (s.t 123) (wC fs out c9_48 (keepOnly [9, 10, 11, 13, 14, 15, 16, 17, 18, 121, 122] s) Q) (Q (.exit 1) (keepOnly [9, 10, 11, 13, 14, 15, 16, 17, 18, 121, 122] s))) : wC fs out c9_46 s Q := wC_seq (s9_47 h)
def c9_44 : ACode := .seq c9_45 c9_46
theorem s9_44 (h : wS fs out s.h.nx o9_45 s.t ⟨s.h.o, s.h.nx + 1⟩ fun s1 => wC fs out c9_46 s1 Q) : wC fs out c9_44 s Q := wC_seq (s9_45 h)
def c9_43 : ACode := .loop [9, 10, 11, 13, 14, 15, 16, 17, 18, 121, 122] c9_44
theorem s9_43 (I : Nat → St → Prop) (n : Nat) (h0 : I n (keepOnly [9, 10, 11, 13, 14, 15, 16, 17, 18, 121, 122] s)) (step : ∀ m s (Q' : AExit → St → Prop), I m s → (∀ m' s1, m' < m → I m' (keepOnly [9, 10, 11, 13, 14, 15, 16, 17, 18, 121, 122] s1) → Q' .normal s1) → (∀ i s1, Q (.exit i) s1 → Q' (.exit i) s1) → (∀ s1, Q .ret s1 → Q' .ret s1) → wC fs out c9_44 s Q') : wC fs out c9_43 s Q := wC_loopQ I n h0 step
def c9_42 : ACode := .block 1 c9_43
theorem s9_42 (h : wC fs out c9_43 s fun e s1 => Q (if e = .exit 1 then .normal else e) s1) : wC fs out c9_42 s Q := wC_block h
def c9_40 : ACode := .seq c9_41 c9_42
theorem s9_40 (h : wS fs out s.h.nx o9_41 s.t ⟨s.h.o, s.h.nx + 3⟩ fun s1 => wC fs out c9_42 s1 Q) : wC fs out c9_40 s Q := wC_seq (s9_41 h)
def o9_63_9 : List (Nat × AOper) := (26, ⟨some 177, .pick (.t 173) (.t 176) (.k (.v (.one (.bool false)))), none⟩) ::
   (27, ⟨some 8, .mov (.t 177), none⟩) ::
   []
theorem h9_63_9 : wS fs out b o9_63_9 t h R = (wV fs out (b + 26) noT h (.pick (.k (t 173)) (.k (t 176)) (.k (.v (.one (.bool false))))) fun x177_0 h => wV fs out (b + 27) noT h (.mov (.k x177_0)) fun x8_1 h => R ⟨(upd (upd t 177 x177_0) 8 x8_1), h⟩) := by kernel_rfl
def o9_63_8g : List (Nat × AOper) := (23, ⟨some 174, .mov (.t 15), none⟩) ::
   (24, ⟨some 175, .mov (.t 18), none⟩) ::
   (25, ⟨some 176, .bin .eql (.t 174) (.t 175), none⟩) ::
   []
theorem h9_63_8g : wS fs out b o9_63_8g t h R = (wV fs out (b + 23) noT h (.mov (.k (t 15))) fun x174_0 h => wV fs out (b + 24) noT h (.mov (.k (t 18))) fun x175_1 h => wV fs out (b + 25) noT h (.bin .eql (.k x174_0) (.k x175_1)) fun x176_2 h => R ⟨(upd (upd (upd t 174 x174_0) 175 x175_1) 176 x176_2), h⟩) := by kernel_rfl
def o9_63_8 : List (Nat × AOper) := grp 173 true o9_63_8g o9_63_9
theorem w9_63_8 : wS fs out b o9_63_8 t h R = onG (t 173) true (wS fs out b o9_63_8g (upd t 173 (.v (.one (.bool true)))) h fun s => wS fs out b o9_63_9 s.t s.h R) (wS fs out b o9_63_9 (upd (upd (upd (upd t 173 (.v (.one (.bool false)))) 174 (.tup [])) 175 (.tup [])) 176 (.tup [])) h R) (wS fs out b o9_63_9 (upd (upd (upd t 174 (.tup [])) 175 (.tup [])) 176 (.tup [])) h R) := wS_grpE rfl
def o9_63_7 : List (Nat × AOper) := (21, ⟨some 172, .pick (.t 168) (.t 171) (.k (.v (.one (.bool false)))), none⟩) ::
   (22, ⟨some 173, .mov (.t 172), none⟩) ::
   o9_63_8
theorem h9_63_7 : wS fs out b o9_63_7 t h R = (wV fs out (b + 21) noT h (.pick (.k (t 168)) (.k (t 171)) (.k (.v (.one (.bool false))))) fun x172_0 h => wV fs out (b + 22) noT h (.mov (.k x172_0)) fun x173_1 h => wS fs out b o9_63_8 (upd (upd t 172 x172_0) 173 x173_1) h R) := by kernel_rfl
def o9_63_6g : List (Nat × AOper) := (18, ⟨some 169, .mov (.t 14), none⟩) ::
   (19, ⟨some 170, .mov (.t 17), none⟩) ::
   (20, ⟨some 171, .call 24 [(.t 169), (.t 170)], none⟩) ::
   []
theorem h9_63_6g : wS fs out b o9_63_6g t h R = (wV fs out (b + 18) noT h (.mov (.k (t 14))) fun x169_0 h => wV fs out (b + 19) noT h (.mov (.k (t 17))) fun x170_1 h => wV fs out (b + 20) noT h (.call 24 [(.k x169_0), (.k x170_1)]) fun x171_2 h => R ⟨(upd (upd (upd t 169 x169_0) 170 x170_1) 171 x171_2), h⟩) := by kernel_rfl
def o9_63_6 : List (Nat × AOper) := grp 168 true o9_63_6g o9_63_7
theorem w9_63_6 : wS fs out b o9_63_6 t h R = onG (t 168) true (wS fs out b o9_63_6g (upd t 168 (.v (.one (.bool true)))) h fun s => wS fs out b o9_63_7 s.t s.h R) (wS fs out b o9_63_7 (upd (upd (upd (upd t 168 (.v (.one (.bool false)))) 169 (.tup [])) 170 (.tup [])) 171 (.tup [])) h R) (wS fs out b o9_63_7 (upd (upd (upd t 169 (.tup [])) 170 (.tup [])) 171 (.tup [])) h R) := wS_grpE rfl
def o9_63_5 : List (Nat × AOper) := (16, ⟨some 167, .pick (.t 163) (.t 166) (.k (.v (.one (.bool false)))), none⟩) ::
   (17, ⟨some 168, .mov (.t 167), none⟩) ::
   o9_63_6
theorem h9_63_5 : wS fs out b o9_63_5 t h R = (wV fs out (b + 16) noT h (.pick (.k (t 163)) (.k (t 166)) (.k (.v (.one (.bool false))))) fun x167_0 h => wV fs out (b + 17) noT h (.mov (.k x167_0)) fun x168_1 h => wS fs out b o9_63_6 (upd (upd t 167 x167_0) 168 x168_1) h R) := by kernel_rfl
def o9_63_4g : List (Nat × AOper) := (13, ⟨some 164, .mov (.t 13), none⟩) ::
   (14, ⟨some 165, .mov (.t 16), none⟩) ::
   (15, ⟨some 166, .call 19 [(.t 164), (.t 165)], none⟩) ::
   []
theorem h9_63_4g : wS fs out b o9_63_4g t h R = (wV fs out (b + 13) noT h (.mov (.k (t 13))) fun x164_0 h => wV fs out (b + 14) noT h (.mov (.k (t 16))) fun x165_1 h => wV fs out (b + 15) noT h (.call 19 [(.k x164_0), (.k x165_1)]) fun x166_2 h => R ⟨(upd (upd (upd t 164 x164_0) 165 x165_1) 166 x166_2), h⟩) := by kernel_rfl
def o9_63_4 : List (Nat × AOper) := grp 163 true o9_63_4g o9_63_5
theorem w9_63_4 : wS fs out b o9_63_4 t h R = onG (t 163) true (wS fs out b o9_63_4g (upd t 163 (.v (.one (.bool true)))) h fun s => wS fs out b o9_63_5 s.t s.h R) (wS fs out b o9_63_5 (upd (upd (upd (upd t 163 (.v (.one (.bool false)))) 164 (.tup [])) 165 (.tup [])) 166 (.tup [])) h R) (wS fs out b o9_63_5 (upd (upd (upd t 164 (.tup [])) 165 (.tup [])) 166 (.tup [])) h R) := wS_grpE rfl
def o9_63_3 : List (Nat × AOper) := (11, ⟨some 162, .pick (.t 152) (.t 161) (.k (.v (.one (.bool false)))), none⟩) ::
   (12, ⟨some 163, .mov (.t 162), none⟩) ::
   o9_63_4
theorem h9_63_3 : wS fs out b o9_63_3 t h R = (wV fs out (b + 11) noT h (.pick (.k (t 152)) (.k (t 161)) (.k (.v (.one (.bool false))))) fun x162_0 h => wV fs out (b + 12) noT h (.mov (.k x162_0)) fun x163_1 h => wS fs out b o9_63_4 (upd (upd t 162 x162_0) 163 x163_1) h R) := by kernel_rfl
def o9_63_2g_2 : List (Nat × AOper) := (10, ⟨some 161, .eqb false (.t 156) (.t 160), none⟩) ::
   []
theorem h9_63_2g_2 : wS fs out b o9_63_2g_2 t h R = (wV fs out (b + 10) noT h (.eqb false (.k (t 156)) (.k (t 160))) fun x161_0 h => R ⟨(upd t 161 x161_0), h⟩) := by kernel_rfl
def o9_63_2g_1 : List (Nat × AOper) := (6, ⟨some 157, .mov (.t 9), none⟩) ::
   (7, ⟨some 158, .mov (.t 10), none⟩) ::
   (8, ⟨some 159, .mov (.t 11), none⟩) ::
   (9, ⟨some 160, .call 23 [(.t 157), (.t 158), (.t 159)], none⟩) ::
   o9_63_2g_2
theorem h9_63_2g_1 : wS fs out b o9_63_2g_1 t h R = (wV fs out (b + 6) noT h (.mov (.k (t 9))) fun x157_0 h => wV fs out (b + 7) noT h (.mov (.k (t 10))) fun x158_1 h => wV fs out (b + 8) noT h (.mov (.k (t 11))) fun x159_2 h => wV fs out (b + 9) noT h (.call 23 [(.k x157_0), (.k x158_1), (.k x159_2)]) fun x160_3 h => wS fs out b o9_63_2g_2 (upd (upd (upd (upd t 157 x157_0) 158 x158_1) 159 x159_2) 160 x160_3) h R) := by kernel_rfl
def o9_63_2g : List (Nat × AOper) := (2, ⟨some 153, .mov (.t 9), none⟩) ::
   (3, ⟨some 154, .mov (.t 10), none⟩) ::
   (4, ⟨some 155, .mov (.t 11), none⟩) ::
   (5, ⟨some 156, .call 22 [(.t 153), (.t 154), (.t 155)], none⟩) ::
   o9_63_2g_1
theorem h9_63_2g : wS fs out b o9_63_2g t h R = (wV fs out (b + 2) noT h (.mov (.k (t 9))) fun x153_0 h => wV fs out (b + 3) noT h (.mov (.k (t 10))) fun x154_1 h => wV fs out (b + 4) noT h (.mov (.k (t 11))) fun x155_2 h => wV fs out (b + 5) noT h (.call 22 [(.k x153_0), (.k x154_1), (.k x155_2)]) fun x156_3 h => wS fs out b o9_63_2g_1 (upd (upd (upd (upd t 153 x153_0) 154 x154_1) 155 x155_2) 156 x156_3) h R) := by kernel_rfl
def o9_63_2 : List (Nat × AOper) := grp 152 true o9_63_2g o9_63_3
theorem w9_63_2 : wS fs out b o9_63_2 t h R = onG (t 152) true (wS fs out b o9_63_2g (upd t 152 (.v (.one (.bool true)))) h fun s => wS fs out b o9_63_3 s.t s.h R) (wS fs out b o9_63_3 (upd (upd (upd (upd (upd (upd (upd (upd (upd (upd t 152 (.v (.one (.bool false)))) 153 (.tup [])) 154 (.tup [])) 155 (.tup [])) 156 (.tup [])) 157 (.tup [])) 158 (.tup [])) 159 (.tup [])) 160 (.tup [])) 161 (.tup [])) h R) (wS fs out b o9_63_3 (upd (upd (upd (upd (upd (upd (upd (upd (upd t 153 (.tup [])) 154 (.tup [])) 155 (.tup [])) 156 (.tup [])) 157 (.tup [])) 158 (.tup [])) 159 (.tup [])) 160 (.tup [])) 161 (.tup [])) h R) := wS_grpE rfl
def o9_63_1 : List (Nat × AOper) := (1, ⟨some 152, .mov (.t 151), none⟩) ::
   o9_63_2
theorem h9_63_1 : wS fs out b o9_63_1 t h R = (wV fs out (b + 1) noT h (.mov (.k (t 151))) fun x152_0 h => wS fs out b o9_63_2 (upd t 152 x152_0) h R) := by kernel_rfl
def o9_63 : List (Nat × AOper) := (0, ⟨some 151, .call 14 [], none⟩) ::
   o9_63_1
theorem h9_63 : wS fs out b o9_63 t h R = (wV fs out (b + 0) noT h (.call 14 []) fun x151_0 h => wS fs out b o9_63_1 (upd t 151 x151_0) h R) := by kernel_rfl
def c9_63 : ACode := .region (o9_63.map (·.2)) [0, 1, 2, 3, 4, 5, 6, 7, 8, 9, 10, 11, 12, 13, 14, 15, 16, 17, 18, 19, 20, 21, 22, 23, 24, 25, 26, 27] []
theorem s9_63 (h : wS fs out s.h.nx o9_63 s.t ⟨s.h.o, s.h.nx + 28⟩ (Q .normal)) : wC fs out c9_63 s Q := wC_region rfl rfl h
def c9_62 : ACode := .seq c9_63 .ret
theorem s9_62 (h : wS fs out s.h.nx o9_63 s.t ⟨s.h.o, s.h.nx + 28⟩ fun s1 => wC fs out .ret s1 Q) : wC fs out c9_62 s Q := wC_seq (s9_63 h)
def c9_39 : ACode := .seq c9_40 c9_62
theorem s9_39 (h : wC fs out c9_40 s fun e s1 => match e with | .normal => wC fs out c9_62 s1 Q | e => Q e s1) : wC fs out c9_39 s Q := wC_seq h
def c9_37 : ACode := .seq c9_38 c9_39
theorem s9_37 (h : wS fs out s.h.nx o9_38 s.t ⟨s.h.o, s.h.nx + 11⟩ fun s1 => wC fs out c9_39 s1 Q) : wC fs out c9_37 s Q := wC_seq (s9_38 h)
def c9_35 : ACode := .seq c9_36 c9_37
theorem s9_35 (h : wS fs out s.h.nx o9_36 s.t ⟨s.h.o, s.h.nx + 11⟩ fun s1 => wC fs out c9_37 s1 Q) : wC fs out c9_35 s Q := wC_seq (s9_36 h)
def c9_10 : ACode := .seq c9_11 c9_35
theorem s9_10 (h : wC fs out c9_11 s fun e s1 => match e with | .normal => wC fs out c9_35 s1 Q | e => Q e s1) : wC fs out c9_10 s Q := wC_seq h
def c9_4 : ACode := .seq c9_5 c9_10
theorem s9_4 (h : wC fs out c9_5 s fun e s1 => match e with | .normal => wC fs out c9_10 s1 Q | e => Q e s1) : wC fs out c9_4 s Q := wC_seq h
def c9_2 : ACode := .seq c9_3 c9_4
theorem s9_2 (h : wS fs out s.h.nx o9_3 s.t ⟨s.h.o, s.h.nx + 9⟩ fun s1 => wC fs out c9_4 s1 Q) : wC fs out c9_2 s Q := wC_seq (s9_3 h)
def c9_0 : ACode := .seq c9_1 c9_2
theorem s9_0 (h : wS fs out s.h.nx o9_1 s.t ⟨s.h.o, s.h.nx + 1⟩ fun s1 => wC fs out c9_2 s1 Q) : wC fs out c9_0 s Q := wC_seq (s9_1 h)
def a9 : AFunc := ⟨4, [8], none, c9_0⟩
theorem t9 : tell Try.prog Try.f9 [([1, 2, 3, 8, 9, 10, 11], [], []), ([9, 10, 11], [], []), ([9, 10, 11], [], []), ([0, 1, 2, 3, 4, 5, 6, 7, 8, 9, 10, 11, 12, 13, 14, 15], [], [0, 0, 0, 4, 12, 28, 0, 64, 192, 448, 1021, 2045, 4093, 8191, 16383, 32767]), ([9, 10, 11], [], []), ([9, 10, 11], [], []), ([9, 10, 11], [], []), ([9, 10, 11, 13, 14, 15, 16, 17, 18, 121, 122], [], []), ([9, 10, 11, 13, 14, 15, 16, 17, 18, 121, 122], [], []), ([8, 9, 10, 11, 13, 14, 15, 16, 17, 18, 121, 122], [], [])] = some a9 := by kernel_rfl
theorem ok9 : FuncOk Try.prog 9 a9 := tell_ok Try.func9 t9

end
def fl9 (f : Nat) : Option AFunc := if f = 9 then some a9 else fs f
theorem fl9_ok : ∀ f fn, fl9 f = some fn → FuncOk Try.prog f fn := by
  intro f fn h
  unfold fl9 at h
  split at h
  · rename_i hf; subst hf; cases h; exact ok9
  · exact fs_ok f fn h
theorem fs9 : fl9 9 = some a9 := by simp [fl9]
theorem lift9 {f : Nat} {args : List T} {h : AH} {Q : T → AH → Prop} (hw : wF fs out f args h Q) : wF fl9 out f args h Q := by
  refine wF_ext (fun f fn hf => ?_) (fun f hf hf' args h => ?_) hw
  · unfold fl9; rw [if_neg (fun e => by subst e; cases hf)]; exact hf
  · unfold fl9 at hf'; split at hf'
    · rename_i e; subst e; cases args <;> rfl
    · exact absurd hf hf'
end Go.Proofs.Ythoicdnlcnppgaa.Fn
