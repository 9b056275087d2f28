/- A law's function, as the abstract machine's, and that it is. Conditions: none. -/
import Derived.Test.YthoicdnlcnppgaaFn
set_option linter.unusedVariables false
set_option linter.unusedSimpArgs false
namespace Go.Proofs.Ythoicdnlcnppgaa.Fn
open Go Go.Am
set_option maxRecDepth 100000
section
variable {fs : Nat → Option AFunc} {out : Rec} {s : St} {Q : AExit → St → Prop} {b : Nat} {t : Nat → T} {h : AH} {R : St → Prop}
/-- railplan/railplanlaw34.DelayRaw -/
def o8_1 : List (Nat × AOper) := (0, ⟨some 8, .mov (.k (.v (.one (.bool false)))), none⟩) ::
   []
theorem h8_1 : wS fs out b o8_1 t h R = (wV fs out (b + 0) noT h (.mov (.k (.v (.one (.bool false))))) fun x8_0 h => R ⟨(upd t 8 x8_0), h⟩) := by kernel_rfl
def c8_1 : ACode := .region (o8_1.map (·.2)) [0] []
theorem s8_1 (h : wS fs out s.h.nx o8_1 s.t ⟨s.h.o, s.h.nx + 1⟩ (Q .normal)) : wC fs out c8_1 s Q := wC_region rfl rfl h
def o8_3_1 : List (Nat × AOper) := (4, ⟨some 19, .mov (.t 23), none⟩) ::
   (5, ⟨some 24, .ext 0 (.t 19), none⟩) ::
   (6, ⟨some 25, .ext 1 (.t 19), none⟩) ::
   (7, ⟨some 26, .ext 2 (.t 19), none⟩) ::
   (8, ⟨some 9, .mov (.t 24), none⟩) ::
   (9, ⟨some 10, .mov (.t 25), none⟩) ::
   (10, ⟨some 11, .mov (.t 26), none⟩) ::
   []
theorem h8_3_1 : wS fs out b o8_3_1 t h R = (wV fs out (b + 4) noT h (.mov (.k (t 23))) fun x19_0 h => wV fs out (b + 5) noT h (.ext 0 (.k x19_0)) fun x24_1 h => wV fs out (b + 6) noT h (.ext 1 (.k x19_0)) fun x25_2 h => wV fs out (b + 7) noT h (.ext 2 (.k x19_0)) fun x26_3 h => wV fs out (b + 8) noT h (.mov (.k x24_1)) fun x9_4 h => wV fs out (b + 9) noT h (.mov (.k x25_2)) fun x10_5 h => wV fs out (b + 10) noT h (.mov (.k x26_3)) fun x11_6 h => R ⟨(upd (upd (upd (upd (upd (upd (upd t 19 x19_0) 24 x24_1) 25 x25_2) 26 x26_3) 9 x9_4) 10 x10_5) 11 x11_6), h⟩) := by kernel_rfl
def o8_3 : List (Nat × AOper) := (0, ⟨some 20, .mov (.t 0), none⟩) ::
   (1, ⟨some 21, .mov (.t 1), none⟩) ::
   (2, ⟨some 22, .mov (.t 2), none⟩) ::
   (3, ⟨some 23, .call 13 [(.t 20), (.t 21), (.t 22)], none⟩) ::
   o8_3_1
theorem h8_3 : wS fs out b o8_3 t h R = (wV fs out (b + 0) noT h (.mov (.k (t 0))) fun x20_0 h => wV fs out (b + 1) noT h (.mov (.k (t 1))) fun x21_1 h => wV fs out (b + 2) noT h (.mov (.k (t 2))) fun x22_2 h => wV fs out (b + 3) noT h (.call 13 [(.k x20_0), (.k x21_1), (.k x22_2)]) fun x23_3 h => wS fs out b o8_3_1 (upd (upd (upd (upd t 20 x20_0) 21 x21_1) 22 x22_2) 23 x23_3) h R) := by kernel_rfl
def c8_3 : ACode := .region (o8_3.map (·.2)) [0, 1, 2, 3, 4, 5, 6, 7, 8, 9, 10] []
theorem s8_3 (h : wS fs out s.h.nx o8_3 s.t ⟨s.h.o, s.h.nx + 11⟩ (Q .normal)) : wC fs out c8_3 s Q := wC_region rfl rfl h
def o8_5_1 : List (Nat × AOper) := (4, ⟨some 27, .mov (.t 31), none⟩) ::
   (5, ⟨some 32, .ext 0 (.t 27), none⟩) ::
   (6, ⟨some 33, .ext 1 (.t 27), none⟩) ::
   (7, ⟨some 34, .ext 2 (.t 27), none⟩) ::
   (8, ⟨some 12, .mov (.t 32), none⟩) ::
   (9, ⟨some 13, .mov (.t 33), none⟩) ::
   (10, ⟨some 14, .mov (.t 34), none⟩) ::
   []
theorem h8_5_1 : wS fs out b o8_5_1 t h R = (wV fs out (b + 4) noT h (.mov (.k (t 31))) fun x27_0 h => wV fs out (b + 5) noT h (.ext 0 (.k x27_0)) fun x32_1 h => wV fs out (b + 6) noT h (.ext 1 (.k x27_0)) fun x33_2 h => wV fs out (b + 7) noT h (.ext 2 (.k x27_0)) fun x34_3 h => wV fs out (b + 8) noT h (.mov (.k x32_1)) fun x12_4 h => wV fs out (b + 9) noT h (.mov (.k x33_2)) fun x13_5 h => wV fs out (b + 10) noT h (.mov (.k x34_3)) fun x14_6 h => R ⟨(upd (upd (upd (upd (upd (upd (upd t 27 x27_0) 32 x32_1) 33 x33_2) 34 x34_3) 12 x12_4) 13 x13_5) 14 x14_6), h⟩) := by kernel_rfl
def o8_5 : List (Nat × AOper) := (0, ⟨some 28, .mov (.t 0), none⟩) ::
   (1, ⟨some 29, .mov (.t 1), none⟩) ::
   (2, ⟨some 30, .mov (.t 2), none⟩) ::
   (3, ⟨some 31, .call 16 [(.t 28), (.t 29), (.t 30)], none⟩) ::
   o8_5_1
theorem h8_5 : wS fs out b o8_5 t h R = (wV fs out (b + 0) noT h (.mov (.k (t 0))) fun x28_0 h => wV fs out (b + 1) noT h (.mov (.k (t 1))) fun x29_1 h => wV fs out (b + 2) noT h (.mov (.k (t 2))) fun x30_2 h => wV fs out (b + 3) noT h (.call 16 [(.k x28_0), (.k x29_1), (.k x30_2)]) fun x31_3 h => wS fs out b o8_5_1 (upd (upd (upd (upd t 28 x28_0) 29 x29_1) 30 x30_2) 31 x31_3) h R) := by kernel_rfl
def c8_5 : ACode := .region (o8_5.map (·.2)) [0, 1, 2, 3, 4, 5, 6, 7, 8, 9, 10] []
theorem s8_5 (h : wS fs out s.h.nx o8_5 s.t ⟨s.h.o, s.h.nx + 11⟩ (Q .normal)) : wC fs out c8_5 s Q := wC_region rfl rfl h
def o8_7_1 : List (Nat × AOper) := (5, ⟨some 35, .mov (.t 40), none⟩) ::
   (6, ⟨some 41, .ext 0 (.t 35), none⟩) ::
   (7, ⟨some 42, .ext 1 (.t 35), none⟩) ::
   (8, ⟨some 15, .mov (.t 41), none⟩) ::
   (9, ⟨some 16, .mov (.t 42), none⟩) ::
   []
theorem h8_7_1 : wS fs out b o8_7_1 t h R = (wV fs out (b + 5) noT h (.mov (.k (t 40))) fun x35_0 h => wV fs out (b + 6) noT h (.ext 0 (.k x35_0)) fun x41_1 h => wV fs out (b + 7) noT h (.ext 1 (.k x35_0)) fun x42_2 h => wV fs out (b + 8) noT h (.mov (.k x41_1)) fun x15_3 h => wV fs out (b + 9) noT h (.mov (.k x42_2)) fun x16_4 h => R ⟨(upd (upd (upd (upd (upd t 35 x35_0) 41 x41_1) 42 x42_2) 15 x15_3) 16 x16_4), h⟩) := by kernel_rfl
def o8_7 : List (Nat × AOper) := (0, ⟨some 36, .mov (.t 0), none⟩) ::
   (1, ⟨some 37, .mov (.t 1), none⟩) ::
   (2, ⟨some 38, .mov (.t 2), none⟩) ::
   (3, ⟨some 39, .mov (.t 3), none⟩) ::
   (4, ⟨some 40, .call 20 [(.t 36), (.t 37), (.t 38), (.t 39)], none⟩) ::
   o8_7_1
theorem h8_7 : wS fs out b o8_7 t h R = (wV fs out (b + 0) noT h (.mov (.k (t 0))) fun x36_0 h => wV fs out (b + 1) noT h (.mov (.k (t 1))) fun x37_1 h => wV fs out (b + 2) noT h (.mov (.k (t 2))) fun x38_2 h => wV fs out (b + 3) noT h (.mov (.k (t 3))) fun x39_3 h => wV fs out (b + 4) noT h (.call 20 [(.k x36_0), (.k x37_1), (.k x38_2), (.k x39_3)]) fun x40_4 h => wS fs out b o8_7_1 (upd (upd (upd (upd (upd t 36 x36_0) 37 x37_1) 38 x38_2) 39 x39_3) 40 x40_4) h R) := by kernel_rfl
def c8_7 : ACode := .region (o8_7.map (·.2)) [0, 1, 2, 3, 4, 5, 6, 7, 8, 9] []
theorem s8_7 (h : wS fs out s.h.nx o8_7 s.t ⟨s.h.o, s.h.nx + 10⟩ (Q .normal)) : wC fs out c8_7 s Q := wC_region rfl rfl h
def o8_9_1 : List (Nat × AOper) := (5, ⟨some 43, .mov (.t 48), none⟩) ::
   (6, ⟨some 49, .ext 0 (.t 43), none⟩) ::
   (7, ⟨some 50, .ext 1 (.t 43), none⟩) ::
   (8, ⟨some 17, .mov (.t 49), none⟩) ::
   (9, ⟨some 18, .mov (.t 50), none⟩) ::
   []
theorem h8_9_1 : wS fs out b o8_9_1 t h R = (wV fs out (b + 5) noT h (.mov (.k (t 48))) fun x43_0 h => wV fs out (b + 6) noT h (.ext 0 (.k x43_0)) fun x49_1 h => wV fs out (b + 7) noT h (.ext 1 (.k x43_0)) fun x50_2 h => wV fs out (b + 8) noT h (.mov (.k x49_1)) fun x17_3 h => wV fs out (b + 9) noT h (.mov (.k x50_2)) fun x18_4 h => R ⟨(upd (upd (upd (upd (upd t 43 x43_0) 49 x49_1) 50 x50_2) 17 x17_3) 18 x18_4), h⟩) := by kernel_rfl
def o8_9 : List (Nat × AOper) := (0, ⟨some 44, .mov (.t 0), none⟩) ::
   (1, ⟨some 45, .mov (.t 1), none⟩) ::
   (2, ⟨some 46, .mov (.t 2), none⟩) ::
   (3, ⟨some 47, .mov (.t 3), none⟩) ::
   (4, ⟨some 48, .call 21 [(.t 44), (.t 45), (.t 46), (.t 47)], none⟩) ::
   o8_9_1
theorem h8_9 : wS fs out b o8_9 t h R = (wV fs out (b + 0) noT h (.mov (.k (t 0))) fun x44_0 h => wV fs out (b + 1) noT h (.mov (.k (t 1))) fun x45_1 h => wV fs out (b + 2) noT h (.mov (.k (t 2))) fun x46_2 h => wV fs out (b + 3) noT h (.mov (.k (t 3))) fun x47_3 h => wV fs out (b + 4) noT h (.call 21 [(.k x44_0), (.k x45_1), (.k x46_2), (.k x47_3)]) fun x48_4 h => wS fs out b o8_9_1 (upd (upd (upd (upd (upd t 44 x44_0) 45 x45_1) 46 x46_2) 47 x47_3) 48 x48_4) h R) := by kernel_rfl
def c8_9 : ACode := .region (o8_9.map (·.2)) [0, 1, 2, 3, 4, 5, 6, 7, 8, 9] []
theorem s8_9 (h : wS fs out s.h.nx o8_9 s.t ⟨s.h.o, s.h.nx + 10⟩ (Q .normal)) : wC fs out c8_9 s Q := wC_region rfl rfl h
def o8_11_13 : List (Nat × AOper) := (36, ⟨some 87, .pick (.t 83) (.t 86) (.k (.v (.one (.bool false)))), none⟩) ::
   (37, ⟨some 8, .mov (.t 87), none⟩) ::
   []
theorem h8_11_13 : wS fs out b o8_11_13 t h R = (wV fs out (b + 36) noT h (.pick (.k (t 83)) (.k (t 86)) (.k (.v (.one (.bool false))))) fun x87_0 h => wV fs out (b + 37) noT h (.mov (.k x87_0)) fun x8_1 h => R ⟨(upd (upd t 87 x87_0) 8 x8_1), h⟩) := by kernel_rfl
def o8_11_12g : List (Nat × AOper) := (33, ⟨some 84, .mov (.t 16), none⟩) ::
   (34, ⟨some 85, .mov (.t 18), none⟩) ::
   (35, ⟨some 86, .bin .eql (.t 84) (.t 85), none⟩) ::
   []
theorem h8_11_12g : wS fs out b o8_11_12g t h R = (wV fs out (b + 33) noT h (.mov (.k (t 16))) fun x84_0 h => wV fs out (b + 34) noT h (.mov (.k (t 18))) fun x85_1 h => wV fs out (b + 35) noT h (.bin .eql (.k x84_0) (.k x85_1)) fun x86_2 h => R ⟨(upd (upd (upd t 84 x84_0) 85 x85_1) 86 x86_2), h⟩) := by kernel_rfl
def o8_11_12 : List (Nat × AOper) := grp 83 true o8_11_12g o8_11_13
theorem w8_11_12 : wS fs out b o8_11_12 t h R = onG (t 83) true (wS fs out b o8_11_12g (upd t 83 (.v (.one (.bool true)))) h fun s => wS fs out b o8_11_13 s.t s.h R) (wS fs out b o8_11_13 (upd (upd (upd (upd t 83 (.v (.one (.bool false)))) 84 (.tup [])) 85 (.tup [])) 86 (.tup [])) h R) (wS fs out b o8_11_13 (upd (upd (upd t 84 (.tup [])) 85 (.tup [])) 86 (.tup [])) h R) := wS_grpE rfl
def o8_11_11 : List (Nat × AOper) := (31, ⟨some 82, .pick (.t 78) (.t 81) (.k (.v (.one (.bool false)))), none⟩) ::
   (32, ⟨some 83, .mov (.t 82), none⟩) ::
   o8_11_12
theorem h8_11_11 : wS fs out b o8_11_11 t h R = (wV fs out (b + 31) noT h (.pick (.k (t 78)) (.k (t 81)) (.k (.v (.one (.bool false))))) fun x82_0 h => wV fs out (b + 32) noT h (.mov (.k x82_0)) fun x83_1 h => wS fs out b o8_11_12 (upd (upd t 82 x82_0) 83 x83_1) h R) := by kernel_rfl
def o8_11_10g : List (Nat × AOper) := (28, ⟨some 79, .mov (.t 15), none⟩) ::
   (29, ⟨some 80, .mov (.t 17), none⟩) ::
   (30, ⟨some 81, .call 19 [(.t 79), (.t 80)], none⟩) ::
   []
theorem h8_11_10g : wS fs out b o8_11_10g t h R = (wV fs out (b + 28) noT h (.mov (.k (t 15))) fun x79_0 h => wV fs out (b + 29) noT h (.mov (.k (t 17))) fun x80_1 h => wV fs out (b + 30) noT h (.call 19 [(.k x79_0), (.k x80_1)]) fun x81_2 h => R ⟨(upd (upd (upd t 79 x79_0) 80 x80_1) 81 x81_2), h⟩) := by kernel_rfl
def o8_11_10 : List (Nat × AOper) := grp 78 true o8_11_10g o8_11_11
theorem w8_11_10 : wS fs out b o8_11_10 t h R = onG (t 78) true (wS fs out b o8_11_10g (upd t 78 (.v (.one (.bool true)))) h fun s => wS fs out b o8_11_11 s.t s.h R) (wS fs out b o8_11_11 (upd (upd (upd (upd t 78 (.v (.one (.bool false)))) 79 (.tup [])) 80 (.tup [])) 81 (.tup [])) h R) (wS fs out b o8_11_11 (upd (upd (upd t 79 (.tup [])) 80 (.tup [])) 81 (.tup [])) h R) := wS_grpE rfl
def o8_11_9 : List (Nat × AOper) := (26, ⟨some 77, .pick (.t 73) (.t 76) (.k (.v (.one (.bool false)))), none⟩) ::
   (27, ⟨some 78, .mov (.t 77), none⟩) ::
   o8_11_10
theorem h8_11_9 : wS fs out b o8_11_9 t h R = (wV fs out (b + 26) noT h (.pick (.k (t 73)) (.k (t 76)) (.k (.v (.one (.bool false))))) fun x77_0 h => wV fs out (b + 27) noT h (.mov (.k x77_0)) fun x78_1 h => wS fs out b o8_11_10 (upd (upd t 77 x77_0) 78 x78_1) h R) := by kernel_rfl
def o8_11_8g : List (Nat × AOper) := (23, ⟨some 74, .mov (.t 11), none⟩) ::
   (24, ⟨some 75, .mov (.t 14), none⟩) ::
   (25, ⟨some 76, .bin .eql (.t 74) (.t 75), none⟩) ::
   []
theorem h8_11_8g : wS fs out b o8_11_8g t h R = (wV fs out (b + 23) noT h (.mov (.k (t 11))) fun x74_0 h => wV fs out (b + 24) noT h (.mov (.k (t 14))) fun x75_1 h => wV fs out (b + 25) noT h (.bin .eql (.k x74_0) (.k x75_1)) fun x76_2 h => R ⟨(upd (upd (upd t 74 x74_0) 75 x75_1) 76 x76_2), h⟩) := by kernel_rfl
def o8_11_8 : List (Nat × AOper) := grp 73 true o8_11_8g o8_11_9
theorem w8_11_8 : wS fs out b o8_11_8 t h R = onG (t 73) true (wS fs out b o8_11_8g (upd t 73 (.v (.one (.bool true)))) h fun s => wS fs out b o8_11_9 s.t s.h R) (wS fs out b o8_11_9 (upd (upd (upd (upd t 73 (.v (.one (.bool false)))) 74 (.tup [])) 75 (.tup [])) 76 (.tup [])) h R) (wS fs out b o8_11_9 (upd (upd (upd t 74 (.tup [])) 75 (.tup [])) 76 (.tup [])) h R) := wS_grpE rfl
def o8_11_7 : List (Nat × AOper) := (21, ⟨some 72, .pick (.t 68) (.t 71) (.k (.v (.one (.bool false)))), none⟩) ::
   (22, ⟨some 73, .mov (.t 72), none⟩) ::
   o8_11_8
theorem h8_11_7 : wS fs out b o8_11_7 t h R = (wV fs out (b + 21) noT h (.pick (.k (t 68)) (.k (t 71)) (.k (.v (.one (.bool false))))) fun x72_0 h => wV fs out (b + 22) noT h (.mov (.k x72_0)) fun x73_1 h => wS fs out b o8_11_8 (upd (upd t 72 x72_0) 73 x73_1) h R) := by kernel_rfl
def o8_11_6g : List (Nat × AOper) := (18, ⟨some 69, .mov (.t 10), none⟩) ::
   (19, ⟨some 70, .mov (.t 13), none⟩) ::
   (20, ⟨some 71, .call 24 [(.t 69), (.t 70)], none⟩) ::
   []
theorem h8_11_6g : wS fs out b o8_11_6g t h R = (wV fs out (b + 18) noT h (.mov (.k (t 10))) fun x69_0 h => wV fs out (b + 19) noT h (.mov (.k (t 13))) fun x70_1 h => wV fs out (b + 20) noT h (.call 24 [(.k x69_0), (.k x70_1)]) fun x71_2 h => R ⟨(upd (upd (upd t 69 x69_0) 70 x70_1) 71 x71_2), h⟩) := by kernel_rfl
def o8_11_6 : List (Nat × AOper) := grp 68 true o8_11_6g o8_11_7
theorem w8_11_6 : wS fs out b o8_11_6 t h R = onG (t 68) true (wS fs out b o8_11_6g (upd t 68 (.v (.one (.bool true)))) h fun s => wS fs out b o8_11_7 s.t s.h R) (wS fs out b o8_11_7 (upd (upd (upd (upd t 68 (.v (.one (.bool false)))) 69 (.tup [])) 70 (.tup [])) 71 (.tup [])) h R) (wS fs out b o8_11_7 (upd (upd (upd t 69 (.tup [])) 70 (.tup [])) 71 (.tup [])) h R) := wS_grpE rfl
def o8_11_5 : List (Nat × AOper) := (16, ⟨some 67, .pick (.t 63) (.t 66) (.k (.v (.one (.bool false)))), none⟩) ::
   (17, ⟨some 68, .mov (.t 67), none⟩) ::
   o8_11_6
theorem h8_11_5 : wS fs out b o8_11_5 t h R = (wV fs out (b + 16) noT h (.pick (.k (t 63)) (.k (t 66)) (.k (.v (.one (.bool false))))) fun x67_0 h => wV fs out (b + 17) noT h (.mov (.k x67_0)) fun x68_1 h => wS fs out b o8_11_6 (upd (upd t 67 x67_0) 68 x68_1) h R) := by kernel_rfl
def o8_11_4g : List (Nat × AOper) := (13, ⟨some 64, .mov (.t 9), none⟩) ::
   (14, ⟨some 65, .mov (.t 12), none⟩) ::
   (15, ⟨some 66, .call 19 [(.t 64), (.t 65)], none⟩) ::
   []
theorem h8_11_4g : wS fs out b o8_11_4g t h R = (wV fs out (b + 13) noT h (.mov (.k (t 9))) fun x64_0 h => wV fs out (b + 14) noT h (.mov (.k (t 12))) fun x65_1 h => wV fs out (b + 15) noT h (.call 19 [(.k x64_0), (.k x65_1)]) fun x66_2 h => R ⟨(upd (upd (upd t 64 x64_0) 65 x65_1) 66 x66_2), h⟩) := by kernel_rfl
def o8_11_4 : List (Nat × AOper) := grp 63 true o8_11_4g o8_11_5
theorem w8_11_4 : wS fs out b o8_11_4 t h R = onG (t 63) true (wS fs out b o8_11_4g (upd t 63 (.v (.one (.bool true)))) h fun s => wS fs out b o8_11_5 s.t s.h R) (wS fs out b o8_11_5 (upd (upd (upd (upd t 63 (.v (.one (.bool false)))) 64 (.tup [])) 65 (.tup [])) 66 (.tup [])) h R) (wS fs out b o8_11_5 (upd (upd (upd t 64 (.tup [])) 65 (.tup [])) 66 (.tup [])) h R) := wS_grpE rfl
def o8_11_3 : List (Nat × AOper) := (11, ⟨some 62, .pick (.t 52) (.t 61) (.k (.v (.one (.bool false)))), none⟩) ::
   (12, ⟨some 63, .mov (.t 62), none⟩) ::
   o8_11_4
theorem h8_11_3 : wS fs out b o8_11_3 t h R = (wV fs out (b + 11) noT h (.pick (.k (t 52)) (.k (t 61)) (.k (.v (.one (.bool false))))) fun x62_0 h => wV fs out (b + 12) noT h (.mov (.k x62_0)) fun x63_1 h => wS fs out b o8_11_4 (upd (upd t 62 x62_0) 63 x63_1) h R) := by kernel_rfl
def o8_11_2g_2 : List (Nat × AOper) := (10, ⟨some 61, .eqb false (.t 56) (.t 60), none⟩) ::
   []
theorem h8_11_2g_2 : wS fs out b o8_11_2g_2 t h R = (wV fs out (b + 10) noT h (.eqb false (.k (t 56)) (.k (t 60))) fun x61_0 h => R ⟨(upd t 61 x61_0), h⟩) := by kernel_rfl
def o8_11_2g_1 : List (Nat × AOper) := (6, ⟨some 57, .mov (.t 0), none⟩) ::
   (7, ⟨some 58, .mov (.t 1), none⟩) ::
   (8, ⟨some 59, .mov (.t 2), none⟩) ::
   (9, ⟨some 60, .call 23 [(.t 57), (.t 58), (.t 59)], none⟩) ::
   o8_11_2g_2
theorem h8_11_2g_1 : wS fs out b o8_11_2g_1 t h R = (wV fs out (b + 6) noT h (.mov (.k (t 0))) fun x57_0 h => wV fs out (b + 7) noT h (.mov (.k (t 1))) fun x58_1 h => wV fs out (b + 8) noT h (.mov (.k (t 2))) fun x59_2 h => wV fs out (b + 9) noT h (.call 23 [(.k x57_0), (.k x58_1), (.k x59_2)]) fun x60_3 h => wS fs out b o8_11_2g_2 (upd (upd (upd (upd t 57 x57_0) 58 x58_1) 59 x59_2) 60 x60_3) h R) := by kernel_rfl
def o8_11_2g : List (Nat × AOper) := (2, ⟨some 53, .mov (.t 0), none⟩) ::
   (3, ⟨some 54, .mov (.t 1), none⟩) ::
   (4, ⟨some 55, .mov (.t 2), none⟩) ::
   (5, ⟨some 56, .call 22 [(.t 53), (.t 54), (.t 55)], none⟩) ::
   o8_11_2g_1
theorem h8_11_2g : wS fs out b o8_11_2g t h R = (wV fs out (b + 2) noT h (.mov (.k (t 0))) fun x53_0 h => wV fs out (b + 3) noT h (.mov (.k (t 1))) fun x54_1 h => wV fs out (b + 4) noT h (.mov (.k (t 2))) fun x55_2 h => wV fs out (b + 5) noT h (.call 22 [(.k x53_0), (.k x54_1), (.k x55_2)]) fun x56_3 h => wS fs out b o8_11_2g_1 (upd (upd (upd (upd t 53 x53_0) 54 x54_1) 55 x55_2) 56 x56_3) h R) := by kernel_rfl
def o8_11_2 : List (Nat × AOper) := grp 52 true o8_11_2g o8_11_3
theorem w8_11_2 : wS fs out b o8_11_2 t h R = onG (t 52) true (wS fs out b o8_11_2g (upd t 52 (.v (.one (.bool true)))) h fun s => wS fs out b o8_11_3 s.t s.h R) (wS fs out b o8_11_3 (upd (upd (upd (upd (upd (upd (upd (upd (upd (upd t 52 (.v (.one (.bool false)))) 53 (.tup [])) 54 (.tup [])) 55 (.tup [])) 56 (.tup [])) 57 (.tup [])) 58 (.tup [])) 59 (.tup [])) 60 (.tup [])) 61 (.tup [])) h R) (wS fs out b o8_11_3 (upd (upd (upd (upd (upd (upd (upd (upd (upd t 53 (.tup [])) 54 (.tup [])) 55 (.tup [])) 56 (.tup [])) 57 (.tup [])) 58 (.tup [])) 59 (.tup [])) 60 (.tup [])) 61 (.tup [])) h R) := wS_grpE rfl
def o8_11_1 : List (Nat × AOper) := (1, ⟨some 52, .mov (.t 51), none⟩) ::
   o8_11_2
theorem h8_11_1 : wS fs out b o8_11_1 t h R = (wV fs out (b + 1) noT h (.mov (.k (t 51))) fun x52_0 h => wS fs out b o8_11_2 (upd t 52 x52_0) h R) := by kernel_rfl
def o8_11 : List (Nat × AOper) := (0, ⟨some 51, .call 14 [], none⟩) ::
   o8_11_1
theorem h8_11 : wS fs out b o8_11 t h R = (wV fs out (b + 0) noT h (.call 14 []) fun x51_0 h => wS fs out b o8_11_1 (upd t 51 x51_0) h R) := by kernel_rfl
def c8_11 : ACode := .region (o8_11.map (·.2)) [0, 1, 2, 3, 4, 5, 6, 7, 8, 9, 10, 11, 12, 13, 14, 15, 16, 17, 18, 19, 20, 21, 22, 23, 24, 25, 26, 27, 28, 29, 30, 31, 32, 33, 34, 35, 36, 37] []
theorem s8_11 (h : wS fs out s.h.nx o8_11 s.t ⟨s.h.o, s.h.nx + 38⟩ (Q .normal)) : wC fs out c8_11 s Q := wC_region rfl rfl h
def c8_10 : ACode := .seq c8_11 .ret
theorem s8_10 (h : wS fs out s.h.nx o8_11 s.t ⟨s.h.o, s.h.nx + 38⟩ fun s1 => wC fs out .ret s1 Q) : wC fs out c8_10 s Q := wC_seq (s8_11 h)
def c8_8 : ACode := .seq c8_9 c8_10
theorem s8_8 (h : wS fs out s.h.nx o8_9 s.t ⟨s.h.o, s.h.nx + 10⟩ fun s1 => wC fs out c8_10 s1 Q) : wC fs out c8_8 s Q := wC_seq (s8_9 h)
def c8_6 : ACode := .seq c8_7 c8_8
theorem s8_6 (h : wS fs out s.h.nx o8_7 s.t ⟨s.h.o, s.h.nx + 10⟩ fun s1 => wC fs out c8_8 s1 Q) : wC fs out c8_6 s Q := wC_seq (s8_7 h)
def c8_4 : ACode := .seq c8_5 c8_6
theorem s8_4 (h : wS fs out s.h.nx o8_5 s.t ⟨s.h.o, s.h.nx + 11⟩ fun s1 => wC fs out c8_6 s1 Q) : wC fs out c8_4 s Q := wC_seq (s8_5 h)
def c8_2 : ACode := .seq c8_3 c8_4
theorem s8_2 (h : wS fs out s.h.nx o8_3 s.t ⟨s.h.o, s.h.nx + 11⟩ fun s1 => wC fs out c8_4 s1 Q) : wC fs out c8_2 s Q := wC_seq (s8_3 h)
def c8_0 : ACode := .seq c8_1 c8_2
theorem s8_0 (h : wS fs out s.h.nx o8_1 s.t ⟨s.h.o, s.h.nx + 1⟩ fun s1 => wC fs out c8_2 s1 Q) : wC fs out c8_0 s Q := wC_seq (s8_1 h)
def a8 : AFunc := ⟨4, [8], none, c8_0⟩
theorem t8 : tell Try.prog Try.f8 [] = some a8 := by kernel_rfl
theorem ok8 : FuncOk Try.prog 8 a8 := tell_ok Try.func8 t8

end
def fl8 (f : Nat) : Option AFunc := if f = 8 then some a8 else fs f
theorem fl8_ok : ∀ f fn, fl8 f = some fn → FuncOk Try.prog f fn := by
  intro f fn h
  unfold fl8 at h
  split at h
  · rename_i hf; subst hf; cases h; exact ok8
  · exact fs_ok f fn h
theorem fs8 : fl8 8 = some a8 := by simp [fl8]
theorem lift8 {f : Nat} {args : List T} {h : AH} {Q : T → AH → Prop} (hw : wF fs out f args h Q) : wF fl8 out f args h Q := by
  refine wF_ext (fun f fn hf => ?_) (fun f hf hf' args h => ?_) hw
  · unfold fl8; rw [if_neg (fun e => by subst e; cases hf)]; exact hf
  · unfold fl8 at hf'; split at hf'
    · rename_i e; subst e; cases args <;> rfl
    · exact absurd hf hf'
end Go.Proofs.Ythoicdnlcnppgaa.Fn
