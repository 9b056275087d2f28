/- A law's function, as the abstract machine's, and that it is. Conditions: none. -/
import Derived.Test.YthoicdnlcnppgaaFn
set_option linter.unusedVariables false
set_option linter.unusedSimpArgs false
namespace Go.Proofs.Ythoicdnlcnppgaa.Fn
open Go Go.Am
set_option maxRecDepth 100000
section
variable {fs : Nat → Option AFunc} {out : Rec} {s : St} {Q : AExit → St → Prop} {b : Nat} {t : Nat → T} {h : AH} {R : St → Prop}
/-- railplan/railplanlaw34.DelayLateness -/
def o7_1 : List (Nat × AOper) := (0, ⟨some 6, .mov (.k (.v (.one (.bool false)))), none⟩) ::
   []
theorem h7_1 : wS fs out b o7_1 t h R = (wV fs out (b + 0) noT h (.mov (.k (.v (.one (.bool false))))) fun x6_0 h => R ⟨(upd t 6 x6_0), h⟩) := by kernel_rfl
def c7_1 : ACode := .region (o7_1.map (·.2)) [0] []
theorem s7_1 (h : wS fs out s.h.nx o7_1 s.t ⟨s.h.o, s.h.nx + 1⟩ (Q .normal)) : wC fs out c7_1 s Q := wC_region rfl rfl h
def o7_3_1 : List (Nat × AOper) := (2, ⟨some 19, .mov (.t 21), none⟩) ::
   (3, ⟨some 22, .ext 0 (.t 19), none⟩) ::
   (4, ⟨some 23, .ext 1 (.t 19), none⟩) ::
   (5, ⟨some 24, .ext 2 (.t 19), none⟩) ::
   (6, ⟨some 7, .mov (.t 22), none⟩) ::
   (7, ⟨some 8, .mov (.t 23), none⟩) ::
   (8, ⟨some 9, .mov (.t 24), none⟩) ::
   []
theorem h7_3_1 : wS fs out b o7_3_1 t h R = (wV fs out (b + 2) noT h (.mov (.k (t 21))) fun x19_0 h => wV fs out (b + 3) noT h (.ext 0 (.k x19_0)) fun x22_1 h => wV fs out (b + 4) noT h (.ext 1 (.k x19_0)) fun x23_2 h => wV fs out (b + 5) noT h (.ext 2 (.k x19_0)) fun x24_3 h => wV fs out (b + 6) noT h (.mov (.k x22_1)) fun x7_4 h => wV fs out (b + 7) noT h (.mov (.k x23_2)) fun x8_5 h => wV fs out (b + 8) noT h (.mov (.k x24_3)) fun x9_6 h => R ⟨(upd (upd (upd (upd (upd (upd (upd t 19 x19_0) 22 x22_1) 23 x23_2) 24 x24_3) 7 x7_4) 8 x8_5) 9 x9_6), h⟩) := by kernel_rfl
def o7_3 : List (Nat × AOper) := (0, ⟨some 20, .mov (.t 1), none⟩) ::
   (1, ⟨some 21, .call 12 [(.t 20)], none⟩) ::
   o7_3_1
theorem h7_3 : wS fs out b o7_3 t h R = (wV fs out (b + 0) noT h (.mov (.k (t 1))) fun x20_0 h => wV fs out (b + 1) noT h (.call 12 [(.k x20_0)]) fun x21_1 h => wS fs out b o7_3_1 (upd (upd t 20 x20_0) 21 x21_1) h R) := by kernel_rfl
def c7_3 : ACode := .region (o7_3.map (·.2)) [0, 1, 2, 3, 4, 5, 6, 7, 8] []
theorem s7_3 (h : wS fs out s.h.nx o7_3 s.t ⟨s.h.o, s.h.nx + 9⟩ (Q .normal)) : wC fs out c7_3 s Q := wC_region rfl rfl h
def o7_5_1 : List (Nat × AOper) := (4, ⟨some 25, .mov (.t 29), none⟩) ::
   (5, ⟨some 30, .ext 0 (.t 25), none⟩) ::
   (6, ⟨some 31, .ext 1 (.t 25), none⟩) ::
   (7, ⟨some 32, .ext 2 (.t 25), none⟩) ::
   (8, ⟨some 10, .mov (.t 30), none⟩) ::
   (9, ⟨some 11, .mov (.t 31), none⟩) ::
   (10, ⟨some 12, .mov (.t 32), none⟩) ::
   []
theorem h7_5_1 : wS fs out b o7_5_1 t h R = (wV fs out (b + 4) noT h (.mov (.k (t 29))) fun x25_0 h => wV fs out (b + 5) noT h (.ext 0 (.k x25_0)) fun x30_1 h => wV fs out (b + 6) noT h (.ext 1 (.k x25_0)) fun x31_2 h => wV fs out (b + 7) noT h (.ext 2 (.k x25_0)) fun x32_3 h => wV fs out (b + 8) noT h (.mov (.k x30_1)) fun x10_4 h => wV fs out (b + 9) noT h (.mov (.k x31_2)) fun x11_5 h => wV fs out (b + 10) noT h (.mov (.k x32_3)) fun x12_6 h => R ⟨(upd (upd (upd (upd (upd (upd (upd t 25 x25_0) 30 x30_1) 31 x31_2) 32 x32_3) 10 x10_4) 11 x11_5) 12 x12_6), h⟩) := by kernel_rfl
def o7_5 : List (Nat × AOper) := (0, ⟨some 26, .mov (.t 7), none⟩) ::
   (1, ⟨some 27, .mov (.t 8), none⟩) ::
   (2, ⟨some 28, .mov (.t 9), none⟩) ::
   (3, ⟨some 29, .call 16 [(.t 26), (.t 27), (.t 28)], none⟩) ::
   o7_5_1
theorem h7_5 : wS fs out b o7_5 t h R = (wV fs out (b + 0) noT h (.mov (.k (t 7))) fun x26_0 h => wV fs out (b + 1) noT h (.mov (.k (t 8))) fun x27_1 h => wV fs out (b + 2) noT h (.mov (.k (t 9))) fun x28_2 h => wV fs out (b + 3) noT h (.call 16 [(.k x26_0), (.k x27_1), (.k x28_2)]) fun x29_3 h => wS fs out b o7_5_1 (upd (upd (upd (upd t 26 x26_0) 27 x27_1) 28 x28_2) 29 x29_3) h R) := by kernel_rfl
def c7_5 : ACode := .region (o7_5.map (·.2)) [0, 1, 2, 3, 4, 5, 6, 7, 8, 9, 10] []
theorem s7_5 (h : wS fs out s.h.nx o7_5 s.t ⟨s.h.o, s.h.nx + 11⟩ (Q .normal)) : wC fs out c7_5 s Q := wC_region rfl rfl h
def o7_7_1 : List (Nat × AOper) := (3, ⟨some 33, .mov (.t 36), none⟩) ::
   (4, ⟨some 37, .ext 0 (.t 33), none⟩) ::
   (5, ⟨some 38, .ext 1 (.t 33), none⟩) ::
   (6, ⟨some 13, .mov (.t 37), none⟩) ::
   (7, ⟨some 14, .mov (.t 38), none⟩) ::
   []
theorem h7_7_1 : wS fs out b o7_7_1 t h R = (wV fs out (b + 3) noT h (.mov (.k (t 36))) fun x33_0 h => wV fs out (b + 4) noT h (.ext 0 (.k x33_0)) fun x37_1 h => wV fs out (b + 5) noT h (.ext 1 (.k x33_0)) fun x38_2 h => wV fs out (b + 6) noT h (.mov (.k x37_1)) fun x13_3 h => wV fs out (b + 7) noT h (.mov (.k x38_2)) fun x14_4 h => R ⟨(upd (upd (upd (upd (upd t 33 x33_0) 37 x37_1) 38 x38_2) 13 x13_3) 14 x14_4), h⟩) := by kernel_rfl
def o7_7 : List (Nat × AOper) := (0, ⟨some 34, .mov (.t 7), none⟩) ::
   (1, ⟨some 35, .mov (.t 10), none⟩) ::
   (2, ⟨some 36, .call 17 [(.t 34), (.t 35)], none⟩) ::
   o7_7_1
theorem h7_7 : wS fs out b o7_7 t h R = (wV fs out (b + 0) noT h (.mov (.k (t 7))) fun x34_0 h => wV fs out (b + 1) noT h (.mov (.k (t 10))) fun x35_1 h => wV fs out (b + 2) noT h (.call 17 [(.k x34_0), (.k x35_1)]) fun x36_2 h => wS fs out b o7_7_1 (upd (upd (upd t 34 x34_0) 35 x35_1) 36 x36_2) h R) := by kernel_rfl
def c7_7 : ACode := .region (o7_7.map (·.2)) [0, 1, 2, 3, 4, 5, 6, 7] []
theorem s7_7 (h : wS fs out s.h.nx o7_7 s.t ⟨s.h.o, s.h.nx + 8⟩ (Q .normal)) : wC fs out c7_7 s Q := wC_region rfl rfl h
def o7_9_1 : List (Nat × AOper) := (3, ⟨some 39, .mov (.t 42), none⟩) ::
   (4, ⟨some 43, .ext 0 (.t 39), none⟩) ::
   (5, ⟨some 44, .ext 1 (.t 39), none⟩) ::
   (6, ⟨some 15, .mov (.t 43), none⟩) ::
   (7, ⟨some 16, .mov (.t 44), none⟩) ::
   []
theorem h7_9_1 : wS fs out b o7_9_1 t h R = (wV fs out (b + 3) noT h (.mov (.k (t 42))) fun x39_0 h => wV fs out (b + 4) noT h (.ext 0 (.k x39_0)) fun x43_1 h => wV fs out (b + 5) noT h (.ext 1 (.k x39_0)) fun x44_2 h => wV fs out (b + 6) noT h (.mov (.k x43_1)) fun x15_3 h => wV fs out (b + 7) noT h (.mov (.k x44_2)) fun x16_4 h => R ⟨(upd (upd (upd (upd (upd t 39 x39_0) 43 x43_1) 44 x44_2) 15 x15_3) 16 x16_4), h⟩) := by kernel_rfl
def o7_9 : List (Nat × AOper) := (0, ⟨some 40, .mov (.t 7), none⟩) ::
   (1, ⟨some 41, .mov (.t 10), none⟩) ::
   (2, ⟨some 42, .call 18 [(.t 40), (.t 41)], none⟩) ::
   o7_9_1
theorem h7_9 : wS fs out b o7_9 t h R = (wV fs out (b + 0) noT h (.mov (.k (t 7))) fun x40_0 h => wV fs out (b + 1) noT h (.mov (.k (t 10))) fun x41_1 h => wV fs out (b + 2) noT h (.call 18 [(.k x40_0), (.k x41_1)]) fun x42_2 h => wS fs out b o7_9_1 (upd (upd (upd t 40 x40_0) 41 x41_1) 42 x42_2) h R) := by kernel_rfl
def c7_9 : ACode := .region (o7_9.map (·.2)) [0, 1, 2, 3, 4, 5, 6, 7] []
theorem s7_9 (h : wS fs out s.h.nx o7_9 s.t ⟨s.h.o, s.h.nx + 8⟩ (Q .normal)) : wC fs out c7_9 s Q := wC_region rfl rfl h
def o7_11_1 : List (Nat × AOper) := (3, ⟨some 45, .mov (.t 48), none⟩) ::
   (4, ⟨some 49, .ext 0 (.t 45), none⟩) ::
   (5, ⟨some 50, .ext 1 (.t 45), none⟩) ::
   (6, ⟨some 17, .mov (.t 49), none⟩) ::
   (7, ⟨some 18, .mov (.t 50), none⟩) ::
   []
theorem h7_11_1 : wS fs out b o7_11_1 t h R = (wV fs out (b + 3) noT h (.mov (.k (t 48))) fun x45_0 h => wV fs out (b + 4) noT h (.ext 0 (.k x45_0)) fun x49_1 h => wV fs out (b + 5) noT h (.ext 1 (.k x45_0)) fun x50_2 h => wV fs out (b + 6) noT h (.mov (.k x49_1)) fun x17_3 h => wV fs out (b + 7) noT h (.mov (.k x50_2)) fun x18_4 h => R ⟨(upd (upd (upd (upd (upd t 45 x45_0) 49 x49_1) 50 x50_2) 17 x17_3) 18 x18_4), h⟩) := by kernel_rfl
def o7_11 : List (Nat × AOper) := (0, ⟨some 46, .mov (.t 0), none⟩) ::
   (1, ⟨some 47, .mov (.t 2), none⟩) ::
   (2, ⟨some 48, .call 17 [(.t 46), (.t 47)], none⟩) ::
   o7_11_1
theorem h7_11 : wS fs out b o7_11 t h R = (wV fs out (b + 0) noT h (.mov (.k (t 0))) fun x46_0 h => wV fs out (b + 1) noT h (.mov (.k (t 2))) fun x47_1 h => wV fs out (b + 2) noT h (.call 17 [(.k x46_0), (.k x47_1)]) fun x48_2 h => wS fs out b o7_11_1 (upd (upd (upd t 46 x46_0) 47 x47_1) 48 x48_2) h R) := by kernel_rfl
def c7_11 : ACode := .region (o7_11.map (·.2)) [0, 1, 2, 3, 4, 5, 6, 7] []
theorem s7_11 (h : wS fs out s.h.nx o7_11 s.t ⟨s.h.o, s.h.nx + 8⟩ (Q .normal)) : wC fs out c7_11 s Q := wC_region rfl rfl h
def o7_13_13 : List (Nat × AOper) := (31, ⟨some 82, .pick (.t 75) (.t 81) (.k (.v (.one (.bool false)))), none⟩) ::
   (32, ⟨some 6, .mov (.t 82), none⟩) ::
   []
theorem h7_13_13 : wS fs out b o7_13_13 t h R = (wV fs out (b + 31) noT h (.pick (.k (t 75)) (.k (t 81)) (.k (.v (.one (.bool false))))) fun x82_0 h => wV fs out (b + 32) noT h (.mov (.k x82_0)) fun x6_1 h => R ⟨(upd (upd t 82 x82_0) 6 x6_1), h⟩) := by kernel_rfl
def o7_13_12g : List (Nat × AOper) := (30, ⟨some 81, .pick (.t 78) (.k (.v (.one (.bool true)))) (.t 80), none⟩) ::
   []
theorem h7_13_12g : wS fs out b o7_13_12g t h R = (wV fs out (b + 30) noT h (.pick (.k (t 78)) (.k (.v (.one (.bool true)))) (.k (t 80))) fun x81_0 h => R ⟨(upd t 81 x81_0), h⟩) := by kernel_rfl
def o7_13_12 : List (Nat × AOper) := grp 75 true o7_13_12g o7_13_13
theorem w7_13_12 : wS fs out b o7_13_12 t h R = onG (t 75) true (wS fs out b o7_13_12g (upd t 75 (.v (.one (.bool true)))) h fun s => wS fs out b o7_13_13 s.t s.h R) (wS fs out b o7_13_13 (upd (upd t 75 (.v (.one (.bool false)))) 81 (.tup [])) h R) (wS fs out b o7_13_13 (upd t 81 (.tup [])) h R) := wS_grpE rfl
def o7_13_11g : List (Nat × AOper) := (28, ⟨some 79, .mov (.t 18), none⟩) ::
   (29, ⟨some 80, .bin .eql (.t 79) (.k (.v (.one (.int .i64 1)))), none⟩) ::
   []
theorem h7_13_11g : wS fs out b o7_13_11g t h R = (wV fs out (b + 28) noT h (.mov (.k (t 18))) fun x79_0 h => wV fs out (b + 29) noT h (.bin .eql (.k x79_0) (.k (.v (.one (.int .i64 1))))) fun x80_1 h => R ⟨(upd (upd t 79 x79_0) 80 x80_1), h⟩) := by kernel_rfl
def o7_13_11 : List (Nat × AOper) := grp 78 false o7_13_11g o7_13_12
theorem w7_13_11 : wS fs out b o7_13_11 t h R = onG (t 78) false (wS fs out b o7_13_11g (upd t 78 (.v (.one (.bool false)))) h fun s => wS fs out b o7_13_12 s.t s.h R) (wS fs out b o7_13_12 (upd (upd (upd t 78 (.v (.one (.bool true)))) 79 (.tup [])) 80 (.tup [])) h R) (wS fs out b o7_13_12 (upd (upd t 79 (.tup [])) 80 (.tup [])) h R) := wS_grpE rfl
def o7_13_10g : List (Nat × AOper) := (25, ⟨some 76, .mov (.t 18), none⟩) ::
   (26, ⟨some 77, .bin .eql (.t 76) (.k (.v (.one (.int .i64 0)))), none⟩) ::
   (27, ⟨some 78, .mov (.t 77), none⟩) ::
   []
theorem h7_13_10g : wS fs out b o7_13_10g t h R = (wV fs out (b + 25) noT h (.mov (.k (t 18))) fun x76_0 h => wV fs out (b + 26) noT h (.bin .eql (.k x76_0) (.k (.v (.one (.int .i64 0))))) fun x77_1 h => wV fs out (b + 27) noT h (.mov (.k x77_1)) fun x78_2 h => R ⟨(upd (upd (upd t 76 x76_0) 77 x77_1) 78 x78_2), h⟩) := by kernel_rfl
def o7_13_10 : List (Nat × AOper) := grp 75 true o7_13_10g o7_13_11
theorem w7_13_10 : wS fs out b o7_13_10 t h R = onG (t 75) true (wS fs out b o7_13_10g (upd t 75 (.v (.one (.bool true)))) h fun s => wS fs out b o7_13_11 s.t s.h R) (wS fs out b o7_13_11 (upd (upd (upd (upd t 75 (.v (.one (.bool false)))) 76 (.tup [])) 77 (.tup [])) 78 (.tup [])) h R) (wS fs out b o7_13_11 (upd (upd (upd t 76 (.tup [])) 77 (.tup [])) 78 (.tup [])) h R) := wS_grpE rfl
def o7_13_9 : List (Nat × AOper) := (23, ⟨some 74, .pick (.t 65) (.t 73) (.k (.v (.one (.bool false)))), none⟩) ::
   (24, ⟨some 75, .mov (.t 74), none⟩) ::
   o7_13_10
theorem h7_13_9 : wS fs out b o7_13_9 t h R = (wV fs out (b + 23) noT h (.pick (.k (t 65)) (.k (t 73)) (.k (.v (.one (.bool false))))) fun x74_0 h => wV fs out (b + 24) noT h (.mov (.k x74_0)) fun x75_1 h => wS fs out b o7_13_10 (upd (upd t 74 x74_0) 75 x75_1) h R) := by kernel_rfl
def o7_13_8g : List (Nat × AOper) := (15, ⟨some 66, .mov (.t 0), none⟩) ::
   (16, ⟨some 67, .len (.t 66), none⟩) ::
   (17, ⟨some 68, .mov (.t 2), none⟩) ::
   (18, ⟨some 69, .len (.t 68), none⟩) ::
   (19, ⟨some 70, .bin .eql (.t 67) (.t 69), none⟩) ::
   (20, ⟨some 71, .mov (.t 18), none⟩) ::
   (21, ⟨some 72, .bin .eql (.t 71) (.k (.v (.one (.int .i64 0)))), none⟩) ::
   (22, ⟨some 73, .eqb false (.t 70) (.t 72), none⟩) ::
   []
theorem h7_13_8g : wS fs out b o7_13_8g t h R = (wV fs out (b + 15) noT h (.mov (.k (t 0))) fun x66_0 h => wV fs out (b + 16) noT h (.len (.k x66_0)) fun x67_1 h => wV fs out (b + 17) noT h (.mov (.k (t 2))) fun x68_2 h => wV fs out (b + 18) noT h (.len (.k x68_2)) fun x69_3 h => wV fs out (b + 19) noT h (.bin .eql (.k x67_1) (.k x69_3)) fun x70_4 h => wV fs out (b + 20) noT h (.mov (.k (t 18))) fun x71_5 h => wV fs out (b + 21) noT h (.bin .eql (.k x71_5) (.k (.v (.one (.int .i64 0))))) fun x72_6 h => wV fs out (b + 22) noT h (.eqb false (.k x70_4) (.k x72_6)) fun x73_7 h => R ⟨(upd (upd (upd (upd (upd (upd (upd (upd t 66 x66_0) 67 x67_1) 68 x68_2) 69 x69_3) 70 x70_4) 71 x71_5) 72 x72_6) 73 x73_7), h⟩) := by kernel_rfl
def o7_13_8 : List (Nat × AOper) := grp 65 true o7_13_8g o7_13_9
theorem w7_13_8 : wS fs out b o7_13_8 t h R = onG (t 65) true (wS fs out b o7_13_8g (upd t 65 (.v (.one (.bool true)))) h fun s => wS fs out b o7_13_9 s.t s.h R) (wS fs out b o7_13_9 (upd (upd (upd (upd (upd (upd (upd (upd (upd t 65 (.v (.one (.bool false)))) 66 (.tup [])) 67 (.tup [])) 68 (.tup [])) 69 (.tup [])) 70 (.tup [])) 71 (.tup [])) 72 (.tup [])) 73 (.tup [])) h R) (wS fs out b o7_13_9 (upd (upd (upd (upd (upd (upd (upd (upd t 66 (.tup [])) 67 (.tup [])) 68 (.tup [])) 69 (.tup [])) 70 (.tup [])) 71 (.tup [])) 72 (.tup [])) 73 (.tup [])) h R) := wS_grpE rfl
def o7_13_7 : List (Nat × AOper) := (13, ⟨some 64, .pick (.t 60) (.t 63) (.k (.v (.one (.bool false)))), none⟩) ::
   (14, ⟨some 65, .mov (.t 64), none⟩) ::
   o7_13_8
theorem h7_13_7 : wS fs out b o7_13_7 t h R = (wV fs out (b + 13) noT h (.pick (.k (t 60)) (.k (t 63)) (.k (.v (.one (.bool false))))) fun x64_0 h => wV fs out (b + 14) noT h (.mov (.k x64_0)) fun x65_1 h => wS fs out b o7_13_8 (upd (upd t 64 x64_0) 65 x65_1) h R) := by kernel_rfl
def o7_13_6g : List (Nat × AOper) := (10, ⟨some 61, .mov (.t 13), none⟩) ::
   (11, ⟨some 62, .mov (.t 15), none⟩) ::
   (12, ⟨some 63, .call 19 [(.t 61), (.t 62)], none⟩) ::
   []
theorem h7_13_6g : wS fs out b o7_13_6g t h R = (wV fs out (b + 10) noT h (.mov (.k (t 13))) fun x61_0 h => wV fs out (b + 11) noT h (.mov (.k (t 15))) fun x62_1 h => wV fs out (b + 12) noT h (.call 19 [(.k x61_0), (.k x62_1)]) fun x63_2 h => R ⟨(upd (upd (upd t 61 x61_0) 62 x62_1) 63 x63_2), h⟩) := by kernel_rfl
def o7_13_6 : List (Nat × AOper) := grp 60 true o7_13_6g o7_13_7
theorem w7_13_6 : wS fs out b o7_13_6 t h R = onG (t 60) true (wS fs out b o7_13_6g (upd t 60 (.v (.one (.bool true)))) h fun s => wS fs out b o7_13_7 s.t s.h R) (wS fs out b o7_13_7 (upd (upd (upd (upd t 60 (.v (.one (.bool false)))) 61 (.tup [])) 62 (.tup [])) 63 (.tup [])) h R) (wS fs out b o7_13_7 (upd (upd (upd t 61 (.tup [])) 62 (.tup [])) 63 (.tup [])) h R) := wS_grpE rfl
def o7_13_5 : List (Nat × AOper) := (8, ⟨some 59, .pick (.t 56) (.t 58) (.k (.v (.one (.bool false)))), none⟩) ::
   (9, ⟨some 60, .mov (.t 59), none⟩) ::
   o7_13_6
theorem h7_13_5 : wS fs out b o7_13_5 t h R = (wV fs out (b + 8) noT h (.pick (.k (t 56)) (.k (t 58)) (.k (.v (.one (.bool false))))) fun x59_0 h => wV fs out (b + 9) noT h (.mov (.k x59_0)) fun x60_1 h => wS fs out b o7_13_6 (upd (upd t 59 x59_0) 60 x60_1) h R) := by kernel_rfl
def o7_13_4g : List (Nat × AOper) := (6, ⟨some 57, .mov (.t 16), none⟩) ::
   (7, ⟨some 58, .bin .eql (.t 57) (.k (.v (.one (.int .i64 0)))), none⟩) ::
   []
theorem h7_13_4g : wS fs out b o7_13_4g t h R = (wV fs out (b + 6) noT h (.mov (.k (t 16))) fun x57_0 h => wV fs out (b + 7) noT h (.bin .eql (.k x57_0) (.k (.v (.one (.int .i64 0))))) fun x58_1 h => R ⟨(upd (upd t 57 x57_0) 58 x58_1), h⟩) := by kernel_rfl
def o7_13_4 : List (Nat × AOper) := grp 56 true o7_13_4g o7_13_5
theorem w7_13_4 : wS fs out b o7_13_4 t h R = onG (t 56) true (wS fs out b o7_13_4g (upd t 56 (.v (.one (.bool true)))) h fun s => wS fs out b o7_13_5 s.t s.h R) (wS fs out b o7_13_5 (upd (upd (upd t 56 (.v (.one (.bool false)))) 57 (.tup [])) 58 (.tup [])) h R) (wS fs out b o7_13_5 (upd (upd t 57 (.tup [])) 58 (.tup [])) h R) := wS_grpE rfl
def o7_13_3 : List (Nat × AOper) := (4, ⟨some 55, .pick (.t 52) (.t 54) (.k (.v (.one (.bool false)))), none⟩) ::
   (5, ⟨some 56, .mov (.t 55), none⟩) ::
   o7_13_4
theorem h7_13_3 : wS fs out b o7_13_3 t h R = (wV fs out (b + 4) noT h (.pick (.k (t 52)) (.k (t 54)) (.k (.v (.one (.bool false))))) fun x55_0 h => wV fs out (b + 5) noT h (.mov (.k x55_0)) fun x56_1 h => wS fs out b o7_13_4 (upd (upd t 55 x55_0) 56 x56_1) h R) := by kernel_rfl
def o7_13_2g : List (Nat × AOper) := (2, ⟨some 53, .mov (.t 14), none⟩) ::
   (3, ⟨some 54, .bin .eql (.t 53) (.k (.v (.one (.int .i64 0)))), none⟩) ::
   []
theorem h7_13_2g : wS fs out b o7_13_2g t h R = (wV fs out (b + 2) noT h (.mov (.k (t 14))) fun x53_0 h => wV fs out (b + 3) noT h (.bin .eql (.k x53_0) (.k (.v (.one (.int .i64 0))))) fun x54_1 h => R ⟨(upd (upd t 53 x53_0) 54 x54_1), h⟩) := by kernel_rfl
def o7_13_2 : List (Nat × AOper) := grp 52 true o7_13_2g o7_13_3
theorem w7_13_2 : wS fs out b o7_13_2 t h R = onG (t 52) true (wS fs out b o7_13_2g (upd t 52 (.v (.one (.bool true)))) h fun s => wS fs out b o7_13_3 s.t s.h R) (wS fs out b o7_13_3 (upd (upd (upd t 52 (.v (.one (.bool false)))) 53 (.tup [])) 54 (.tup [])) h R) (wS fs out b o7_13_3 (upd (upd t 53 (.tup [])) 54 (.tup [])) h R) := wS_grpE rfl
def o7_13_1 : List (Nat × AOper) := (1, ⟨some 52, .mov (.t 51), none⟩) ::
   o7_13_2
theorem h7_13_1 : wS fs out b o7_13_1 t h R = (wV fs out (b + 1) noT h (.mov (.k (t 51))) fun x52_0 h => wS fs out b o7_13_2 (upd t 52 x52_0) h R) := by kernel_rfl
def o7_13 : List (Nat × AOper) := (0, ⟨some 51, .call 14 [], none⟩) ::
   o7_13_1
theorem h7_13 : wS fs out b o7_13 t h R = (wV fs out (b + 0) noT h (.call 14 []) fun x51_0 h => wS fs out b o7_13_1 (upd t 51 x51_0) h R) := by kernel_rfl
def c7_13 : ACode := .region (o7_13.map (·.2)) [0, 1, 2, 3, 4, 5, 6, 7, 8, 9, 10, 11, 12, 13, 14, 15, 16, 17, 18, 19, 20, 21, 22, 23, 24, 25, 26, 27, 28, 29, 30, 31, 32] []
theorem s7_13 (h : wS fs out s.h.nx o7_13 s.t ⟨s.h.o, s.h.nx + 33⟩ (Q .normal)) : wC fs out c7_13 s Q := wC_region rfl rfl h
def c7_12 : ACode := .seq c7_13 .ret
theorem s7_12 (h : wS fs out s.h.nx o7_13 s.t ⟨s.h.o, s.h.nx + 33⟩ fun s1 => wC fs out .ret s1 Q) : wC fs out c7_12 s Q := wC_seq (s7_13 h)
def c7_10 : ACode := .seq c7_11 c7_12
theorem s7_10 (h : wS fs out s.h.nx o7_11 s.t ⟨s.h.o, s.h.nx + 8⟩ fun s1 => wC fs out c7_12 s1 Q) : wC fs out c7_10 s Q := wC_seq (s7_11 h)
def c7_8 : ACode := .seq c7_9 c7_10
theorem s7_8 (h : wS fs out s.h.nx o7_9 s.t ⟨s.h.o, s.h.nx + 8⟩ fun s1 => wC fs out c7_10 s1 Q) : wC fs out c7_8 s Q := wC_seq (s7_9 h)
def c7_6 : ACode := .seq c7_7 c7_8
theorem s7_6 (h : wS fs out s.h.nx o7_7 s.t ⟨s.h.o, s.h.nx + 8⟩ fun s1 => wC fs out c7_8 s1 Q) : wC fs out c7_6 s Q := wC_seq (s7_7 h)
def c7_4 : ACode := .seq c7_5 c7_6
theorem s7_4 (h : wS fs out s.h.nx o7_5 s.t ⟨s.h.o, s.h.nx + 11⟩ fun s1 => wC fs out c7_6 s1 Q) : wC fs out c7_4 s Q := wC_seq (s7_5 h)
def c7_2 : ACode := .seq c7_3 c7_4
theorem s7_2 (h : wS fs out s.h.nx o7_3 s.t ⟨s.h.o, s.h.nx + 9⟩ fun s1 => wC fs out c7_4 s1 Q) : wC fs out c7_2 s Q := wC_seq (s7_3 h)
def c7_0 : ACode := .seq c7_1 c7_2
theorem s7_0 (h : wS fs out s.h.nx o7_1 s.t ⟨s.h.o, s.h.nx + 1⟩ fun s1 => wC fs out c7_2 s1 Q) : wC fs out c7_0 s Q := wC_seq (s7_1 h)
def a7 : AFunc := ⟨3, [6], none, c7_0⟩
theorem t7 : tell Try.prog Try.f7 [] = some a7 := by kernel_rfl
theorem ok7 : FuncOk Try.prog 7 a7 := tell_ok Try.func7 t7

end
def fl7 (f : Nat) : Option AFunc := if f = 7 then some a7 else fs f
theorem fl7_ok : ∀ f fn, fl7 f = some fn → FuncOk Try.prog f fn := by
  intro f fn h
  unfold fl7 at h
  split at h
  · rename_i hf; subst hf; cases h; exact ok7
  · exact fs_ok f fn h
theorem fs7 : fl7 7 = some a7 := by simp [fl7]
theorem lift7 {f : Nat} {args : List T} {h : AH} {Q : T → AH → Prop} (hw : wF fs out f args h Q) : wF fl7 out f args h Q := by
  refine wF_ext (fun f fn hf => ?_) (fun f hf hf' args h => ?_) hw
  · unfold fl7; rw [if_neg (fun e => by subst e; cases hf)]; exact hf
  · unfold fl7 at hf'; split at hf'
    · rename_i e; subst e; cases args <;> rfl
    · exact absurd hf hf'
end Go.Proofs.Ythoicdnlcnppgaa.Fn
