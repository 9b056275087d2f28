/- A law's function, as the abstract machine's, and that it is. Conditions: none. -/
import Derived.Test.YthoicdnlcnppgaaFn
set_option linter.unusedVariables false
set_option linter.unusedSimpArgs false
namespace Go.Proofs.Ythoicdnlcnppgaa.Fn
open Go Go.Am
set_option maxRecDepth 100000
section
variable {fs : Nat → Option AFunc} {out : Rec} {s : St} {Q : AExit → St → Prop} {b : Nat} {t : Nat → T} {h : AH} {R : St → Prop}
/-- railplan/railplanlaw34.DelayCause -/
def o10_1 : List (Nat × AOper) := (0, ⟨some 4, .mov (.k (.v (.one (.bool false)))), none⟩) ::
   []
theorem h10_1 : wS fs out b o10_1 t h R = (wV fs out (b + 0) noT h (.mov (.k (.v (.one (.bool false))))) fun x4_0 h => R ⟨(upd t 4 x4_0), h⟩) := by kernel_rfl
def c10_1 : ACode := .region (o10_1.map (·.2)) [0] []
theorem s10_1 (h : wS fs out s.h.nx o10_1 s.t ⟨s.h.o, s.h.nx + 1⟩ (Q .normal)) : wC fs out c10_1 s Q := wC_region rfl rfl h
def o10_3_1 : List (Nat × AOper) := (2, ⟨some 20, .mov (.t 22), none⟩) ::
   (3, ⟨some 23, .ext 0 (.t 20), none⟩) ::
   (4, ⟨some 24, .ext 1 (.t 20), none⟩) ::
   (5, ⟨some 25, .ext 2 (.t 20), none⟩) ::
   (6, ⟨some 5, .mov (.t 23), none⟩) ::
   (7, ⟨some 6, .mov (.t 24), none⟩) ::
   (8, ⟨some 7, .mov (.t 25), none⟩) ::
   []
theorem h10_3_1 : wS fs out b o10_3_1 t h R = (wV fs out (b + 2) noT h (.mov (.k (t 22))) fun x20_0 h => wV fs out (b + 3) noT h (.ext 0 (.k x20_0)) fun x23_1 h => wV fs out (b + 4) noT h (.ext 1 (.k x20_0)) fun x24_2 h => wV fs out (b + 5) noT h (.ext 2 (.k x20_0)) fun x25_3 h => wV fs out (b + 6) noT h (.mov (.k x23_1)) fun x5_4 h => wV fs out (b + 7) noT h (.mov (.k x24_2)) fun x6_5 h => wV fs out (b + 8) noT h (.mov (.k x25_3)) fun x7_6 h => R ⟨(upd (upd (upd (upd (upd (upd (upd t 20 x20_0) 23 x23_1) 24 x24_2) 25 x25_3) 5 x5_4) 6 x6_5) 7 x7_6), h⟩) := by kernel_rfl
def o10_3 : List (Nat × AOper) := (0, ⟨some 21, .mov (.t 0), none⟩) ::
   (1, ⟨some 22, .call 12 [(.t 21)], none⟩) ::
   o10_3_1
theorem h10_3 : wS fs out b o10_3 t h R = (wV fs out (b + 0) noT h (.mov (.k (t 0))) fun x21_0 h => wV fs out (b + 1) noT h (.call 12 [(.k x21_0)]) fun x22_1 h => wS fs out b o10_3_1 (upd (upd t 21 x21_0) 22 x22_1) h R) := by kernel_rfl
def c10_3 : ACode := .region (o10_3.map (·.2)) [0, 1, 2, 3, 4, 5, 6, 7, 8] []
theorem s10_3 (h : wS fs out s.h.nx o10_3 s.t ⟨s.h.o, s.h.nx + 9⟩ (Q .normal)) : wC fs out c10_3 s Q := wC_region rfl rfl h
def o10_5_1 : List (Nat × AOper) := (4, ⟨some 8, .mov (.t 29), none⟩) ::
   []
theorem h10_5_1 : wS fs out b o10_5_1 t h R = (wV fs out (b + 4) noT h (.mov (.k (t 29))) fun x8_0 h => R ⟨(upd t 8 x8_0), h⟩) := by kernel_rfl
def o10_5 : List (Nat × AOper) := (0, ⟨some 26, .mov (.t 1), none⟩) ::
   (1, ⟨some 27, .mov (.t 5), none⟩) ::
   (2, ⟨some 28, .len (.t 27), none⟩) ::
   (3, ⟨some 29, .call 15 [(.t 26), (.t 28)], none⟩) ::
   o10_5_1
theorem h10_5 : wS fs out b o10_5 t h R = (wV fs out (b + 0) noT h (.mov (.k (t 1))) fun x26_0 h => wV fs out (b + 1) noT h (.mov (.k (t 5))) fun x27_1 h => wV fs out (b + 2) noT h (.len (.k x27_1)) fun x28_2 h => wV fs out (b + 3) noT h (.call 15 [(.k x26_0), (.k x28_2)]) fun x29_3 h => wS fs out b o10_5_1 (upd (upd (upd (upd t 26 x26_0) 27 x27_1) 28 x28_2) 29 x29_3) h R) := by kernel_rfl
def c10_5 : ACode := .region (o10_5.map (·.2)) [0, 1, 2, 3, 4] []
theorem s10_5 (h : wS fs out s.h.nx o10_5 s.t ⟨s.h.o, s.h.nx + 5⟩ (Q .normal)) : wC fs out c10_5 s Q := wC_region rfl rfl h
def o10_7_1 : List (Nat × AOper) := (4, ⟨some 30, .mov (.t 34), none⟩) ::
   (5, ⟨some 35, .ext 0 (.t 30), none⟩) ::
   (6, ⟨some 36, .ext 1 (.t 30), none⟩) ::
   (7, ⟨some 37, .ext 2 (.t 30), none⟩) ::
   (8, ⟨some 9, .mov (.t 35), none⟩) ::
   (9, ⟨some 10, .mov (.t 36), none⟩) ::
   (10, ⟨some 11, .mov (.t 37), none⟩) ::
   []
theorem h10_7_1 : wS fs out b o10_7_1 t h R = (wV fs out (b + 4) noT h (.mov (.k (t 34))) fun x30_0 h => wV fs out (b + 5) noT h (.ext 0 (.k x30_0)) fun x35_1 h => wV fs out (b + 6) noT h (.ext 1 (.k x30_0)) fun x36_2 h => wV fs out (b + 7) noT h (.ext 2 (.k x30_0)) fun x37_3 h => wV fs out (b + 8) noT h (.mov (.k x35_1)) fun x9_4 h => wV fs out (b + 9) noT h (.mov (.k x36_2)) fun x10_5 h => wV fs out (b + 10) noT h (.mov (.k x37_3)) fun x11_6 h => R ⟨(upd (upd (upd (upd (upd (upd (upd t 30 x30_0) 35 x35_1) 36 x36_2) 37 x37_3) 9 x9_4) 10 x10_5) 11 x11_6), h⟩) := by kernel_rfl
def o10_7 : List (Nat × AOper) := (0, ⟨some 31, .mov (.t 5), none⟩) ::
   (1, ⟨some 32, .mov (.t 6), none⟩) ::
   (2, ⟨some 33, .mov (.t 7), none⟩) ::
   (3, ⟨some 34, .call 16 [(.t 31), (.t 32), (.t 33)], none⟩) ::
   o10_7_1
theorem h10_7 : wS fs out b o10_7 t h R = (wV fs out (b + 0) noT h (.mov (.k (t 5))) fun x31_0 h => wV fs out (b + 1) noT h (.mov (.k (t 6))) fun x32_1 h => wV fs out (b + 2) noT h (.mov (.k (t 7))) fun x33_2 h => wV fs out (b + 3) noT h (.call 16 [(.k x31_0), (.k x32_1), (.k x33_2)]) fun x34_3 h => wS fs out b o10_7_1 (upd (upd (upd (upd t 31 x31_0) 32 x32_1) 33 x33_2) 34 x34_3) h R) := by kernel_rfl
def c10_7 : ACode := .region (o10_7.map (·.2)) [0, 1, 2, 3, 4, 5, 6, 7, 8, 9, 10] []
theorem s10_7 (h : wS fs out s.h.nx o10_7 s.t ⟨s.h.o, s.h.nx + 11⟩ (Q .normal)) : wC fs out c10_7 s Q := wC_region rfl rfl h
def o10_9_1 : List (Nat × AOper) := (5, ⟨some 38, .mov (.t 43), none⟩) ::
   (6, ⟨some 44, .ext 0 (.t 38), none⟩) ::
   (7, ⟨some 45, .ext 1 (.t 38), none⟩) ::
   (8, ⟨some 12, .mov (.t 44), none⟩) ::
   (9, ⟨some 13, .mov (.t 45), none⟩) ::
   []
theorem h10_9_1 : wS fs out b o10_9_1 t h R = (wV fs out (b + 5) noT h (.mov (.k (t 43))) fun x38_0 h => wV fs out (b + 6) noT h (.ext 0 (.k x38_0)) fun x44_1 h => wV fs out (b + 7) noT h (.ext 1 (.k x38_0)) fun x45_2 h => wV fs out (b + 8) noT h (.mov (.k x44_1)) fun x12_3 h => wV fs out (b + 9) noT h (.mov (.k x45_2)) fun x13_4 h => R ⟨(upd (upd (upd (upd (upd t 38 x38_0) 44 x44_1) 45 x45_2) 12 x12_3) 13 x13_4), h⟩) := by kernel_rfl
def o10_9 : List (Nat × AOper) := (0, ⟨some 39, .mov (.t 5), none⟩) ::
   (1, ⟨some 40, .mov (.t 6), none⟩) ::
   (2, ⟨some 41, .mov (.t 7), none⟩) ::
   (3, ⟨some 42, .mov (.t 8), none⟩) ::
   (4, ⟨some 43, .call 20 [(.t 39), (.t 40), (.t 41), (.t 42)], none⟩) ::
   o10_9_1
theorem h10_9 : wS fs out b o10_9 t h R = (wV fs out (b + 0) noT h (.mov (.k (t 5))) fun x39_0 h => wV fs out (b + 1) noT h (.mov (.k (t 6))) fun x40_1 h => wV fs out (b + 2) noT h (.mov (.k (t 7))) fun x41_2 h => wV fs out (b + 3) noT h (.mov (.k (t 8))) fun x42_3 h => wV fs out (b + 4) noT h (.call 20 [(.k x39_0), (.k x40_1), (.k x41_2), (.k x42_3)]) fun x43_4 h => wS fs out b o10_9_1 (upd (upd (upd (upd (upd t 39 x39_0) 40 x40_1) 41 x41_2) 42 x42_3) 43 x43_4) h R) := by kernel_rfl
def c10_9 : ACode := .region (o10_9.map (·.2)) [0, 1, 2, 3, 4, 5, 6, 7, 8, 9] []
theorem s10_9 (h : wS fs out s.h.nx o10_9 s.t ⟨s.h.o, s.h.nx + 10⟩ (Q .normal)) : wC fs out c10_9 s Q := wC_region rfl rfl h
def o10_12_2 : List (Nat × AOper) := (8, ⟨some 54, .pick (.t 48) (.k (.v (.one (.bool true)))) (.t 53), none⟩) ::
   []
theorem h10_12_2 : wS fs out b o10_12_2 t h R = (wV fs out (b + 8) noT h (.pick (.k (t 48)) (.k (.v (.one (.bool true)))) (.k (t 53))) fun x54_0 h => R ⟨(upd t 54 x54_0), h⟩) := by kernel_rfl
def o10_12_1g : List (Nat × AOper) := (3, ⟨some 49, .mov (.t 12), none⟩) ::
   (4, ⟨some 50, .len (.t 49), none⟩) ::
   (5, ⟨some 51, .mov (.t 5), none⟩) ::
   (6, ⟨some 52, .len (.t 51), none⟩) ::
   (7, ⟨some 53, .bin .geq (.t 50) (.t 52), none⟩) ::
   []
theorem h10_12_1g : wS fs out b o10_12_1g t h R = (wV fs out (b + 3) noT h (.mov (.k (t 12))) fun x49_0 h => wV fs out (b + 4) noT h (.len (.k x49_0)) fun x50_1 h => wV fs out (b + 5) noT h (.mov (.k (t 5))) fun x51_2 h => wV fs out (b + 6) noT h (.len (.k x51_2)) fun x52_3 h => wV fs out (b + 7) noT h (.bin .geq (.k x50_1) (.k x52_3)) fun x53_4 h => R ⟨(upd (upd (upd (upd (upd t 49 x49_0) 50 x50_1) 51 x51_2) 52 x52_3) 53 x53_4), h⟩) := by kernel_rfl
def o10_12_1 : List (Nat × AOper) := grp 48 false o10_12_1g o10_12_2
theorem w10_12_1 : wS fs out b o10_12_1 t h R = onG (t 48) false (wS fs out b o10_12_1g (upd t 48 (.v (.one (.bool false)))) h fun s => wS fs out b o10_12_2 s.t s.h R) (wS fs out b o10_12_2 (upd (upd (upd (upd (upd (upd t 48 (.v (.one (.bool true)))) 49 (.tup [])) 50 (.tup [])) 51 (.tup [])) 52 (.tup [])) 53 (.tup [])) h R) (wS fs out b o10_12_2 (upd (upd (upd (upd (upd t 49 (.tup [])) 50 (.tup [])) 51 (.tup [])) 52 (.tup [])) 53 (.tup [])) h R) := wS_grpE rfl
def o10_12 : List (Nat × AOper) := (0, ⟨some 46, .mov (.t 13), none⟩) ::
   (1, ⟨some 47, .bin .neq (.t 46) (.k (.v (.one (.int .i64 0)))), none⟩) ::
   (2, ⟨some 48, .mov (.t 47), none⟩) ::
   o10_12_1
theorem h10_12 : wS fs out b o10_12 t h R = (wV fs out (b + 0) noT h (.mov (.k (t 13))) fun x46_0 h => wV fs out (b + 1) noT h (.bin .neq (.k x46_0) (.k (.v (.one (.int .i64 0))))) fun x47_1 h => wV fs out (b + 2) noT h (.mov (.k x47_1)) fun x48_2 h => wS fs out b o10_12_1 (upd (upd (upd t 46 x46_0) 47 x47_1) 48 x48_2) h R) := by kernel_rfl
def c10_12 : ACode := .region (o10_12.map (·.2)) [0, 1, 2, 3, 4, 5, 6, 7, 8] []
theorem s10_12 (h : wS fs out s.h.nx o10_12 s.t ⟨s.h.o, s.h.nx + 9⟩ (Q .normal)) : wC fs out c10_12 s Q := wC_region rfl rfl h
def o10_15 : List (Nat × AOper) := (0, ⟨some 4, .mov (.k (.v (.one (.bool false)))), none⟩) ::
   []
theorem h10_15 : wS fs out b o10_15 t h R = (wV fs out (b + 0) noT h (.mov (.k (.v (.one (.bool false))))) fun x4_0 h => R ⟨(upd t 4 x4_0), h⟩) := by kernel_rfl
def c10_15 : ACode := .region (o10_15.map (·.2)) [0] []
theorem s10_15 (h : wS fs out s.h.nx o10_15 s.t ⟨s.h.o, s.h.nx + 1⟩ (Q .normal)) : wC fs out c10_15 s Q := wC_region rfl rfl h
def c10_14 : ACode := .seq c10_15 .ret
theorem s10_14 (h : wS fs out s.h.nx o10_15 s.t ⟨s.h.o, s.h.nx + 1⟩ fun s1 => wC fs out .ret s1 Q) : wC fs out c10_14 s Q := wC_seq (s10_15 h)
def c10_13 : ACode := .cond (.t 54) c10_14 .skip [4, 5, 6, 7, 8, 9, 10, 12]
theorem s10_13 (h : onC (s.t 54) (wC fs out c10_14 s fun e s1 => Q e (keepOnly [4, 5, 6, 7, 8, 9, 10, 12] s1)) (Q .normal (keepOnly [4, 5, 6, 7, 8, 9, 10, 12] s))) : wC fs out c10_13 s Q := wC_condC (by first | exact h | (simp only [wC_skip, wC_exit, wC_ret]; exact h))
def c10_11 : ACode := .seq c10_12 c10_13
theorem s10_11 (h : wS fs out s.h.nx o10_12 s.t ⟨s.h.o, s.h.nx + 9⟩ fun s1 => wC fs out c10_13 s1 Q) : wC fs out c10_11 s Q := wC_seq (s10_12 h)
def o10_18 : List (Nat × AOper) := (0, ⟨some 55, .mov (.t 12), none⟩) ::
   (1, ⟨some 56, .len (.t 55), none⟩) ::
   (2, ⟨some 57, .mov (.k (.v (.one (.int .i64 0)))), none⟩) ::
   []
theorem h10_18 : wS fs out b o10_18 t h R = (wV fs out (b + 0) noT h (.mov (.k (t 12))) fun x55_0 h => wV fs out (b + 1) noT h (.len (.k x55_0)) fun x56_1 h => wV fs out (b + 2) noT h (.mov (.k (.v (.one (.int .i64 0))))) fun x57_2 h => R ⟨(upd (upd (upd t 55 x55_0) 56 x56_1) 57 x57_2), h⟩) := by kernel_rfl
def c10_18 : ACode := .region (o10_18.map (·.2)) [0, 1, 2] []
theorem s10_18 (h : wS fs out s.h.nx o10_18 s.t ⟨s.h.o, s.h.nx + 3⟩ (Q .normal)) : wC fs out c10_18 s Q := wC_region rfl rfl h
def o10_22 : List (Nat × AOper) := (0, ⟨some 58, .bin .lss (.t 57) (.t 56), none⟩) ::
   []
theorem h10_22 : wS fs out b o10_22 t h R = (wV fs out (b + 0) noT h (.bin .lss (.k (t 57)) (.k (t 56))) fun x58_0 h => R ⟨(upd t 58 x58_0), h⟩) := by kernel_rfl
def c10_22 : ACode := .region (o10_22.map (·.2)) [0] []
theorem s10_22 (h : wS fs out s.h.nx o10_22 s.t ⟨s.h.o, s.h.nx + 1⟩ (Q .normal)) : wC fs out c10_22 s Q := wC_region rfl rfl h
def c10_24 : ACode := .cond (.t 58) .skip (.exit 0) [5, 6, 7, 8, 9, 10, 55, 56, 57]
theorem s10_24 (h : onC (s.t 58) (Q .normal (keepOnly [5, 6, 7, 8, 9, 10, 55, 56, 57] s)) (Q (.exit 0) (keepOnly [5, 6, 7, 8, 9, 10, 55, 56, 57] s))) : wC fs out c10_24 s Q := wC_condC (by first | exact h | (simp only [wC_skip, wC_exit, wC_ret]; exact h))
def o10_28 : List (Nat × AOper) := (0, ⟨some 59, .iadr 1 (.t 55) (.t 57), none⟩) ::
   (1, ⟨some 60, .load none (.t 59), none⟩) ::
   (2, ⟨some 15, .mov (.t 60), none⟩) ::
   []
theorem h10_28 : wS fs out b o10_28 t h R = (wV fs out (b + 0) noT h (.iadr 1 (.k (t 55)) (.k (t 57))) fun x59_0 h => wV fs out (b + 1) noT h (.load none (.k x59_0)) fun x60_1 h => wV fs out (b + 2) noT h (.mov (.k x60_1)) fun x15_2 h => R ⟨(upd (upd (upd t 59 x59_0) 60 x60_1) 15 x15_2), h⟩) := by kernel_rfl
def c10_28 : ACode := .region (o10_28.map (·.2)) [0, 1, 2] []
theorem s10_28 (h : wS fs out s.h.nx o10_28 s.t ⟨s.h.o, s.h.nx + 3⟩ (Q .normal)) : wC fs out c10_28 s Q := wC_region rfl rfl h
def o10_31_8 : List (Nat × AOper) := (44, ⟨some 105, .pick (.t 85) (.k (.v (.one (.bool true)))) (.t 104), none⟩) ::
   []
theorem h10_31_8 : wS fs out b o10_31_8 t h R = (wV fs out (b + 44) noT h (.pick (.k (t 85)) (.k (.v (.one (.bool true)))) (.k (t 104))) fun x105_0 h => R ⟨(upd t 105 x105_0), h⟩) := by kernel_rfl
def o10_31_7g_1 : List (Nat × AOper) := (35, ⟨some 96, .iadr 4 (.t 94) (.t 95), none⟩) ::
   (36, ⟨some 97, .fadr 2 (.t 96), none⟩) ::
   (37, ⟨some 98, .load none (.t 97), none⟩) ::
   (38, ⟨some 99, .bin .add (.t 93) (.t 98), none⟩) ::
   (39, ⟨some 100, .mov (.t 9), none⟩) ::
   (40, ⟨some 101, .mov (.t 8), none⟩) ::
   (41, ⟨some 102, .iadr 1 (.t 100) (.t 101), none⟩) ::
   (42, ⟨some 103, .load none (.t 102), none⟩) ::
   (43, ⟨some 104, .bin .gtr (.t 99) (.t 103), none⟩) ::
   []
theorem h10_31_7g_1 : wS fs out b o10_31_7g_1 t h R = (wV fs out (b + 35) noT h (.iadr 4 (.k (t 94)) (.k (t 95))) fun x96_0 h => wV fs out (b + 36) noT h (.fadr 2 (.k x96_0)) fun x97_1 h => wV fs out (b + 37) noT h (.load none (.k x97_1)) fun x98_2 h => wV fs out (b + 38) noT h (.bin .add (.k (t 93)) (.k x98_2)) fun x99_3 h => wV fs out (b + 39) noT h (.mov (.k (t 9))) fun x100_4 h => wV fs out (b + 40) noT h (.mov (.k (t 8))) fun x101_5 h => wV fs out (b + 41) noT h (.iadr 1 (.k x100_4) (.k x101_5)) fun x102_6 h => wV fs out (b + 42) noT h (.load none (.k x102_6)) fun x103_7 h => wV fs out (b + 43) noT h (.bin .gtr (.k x99_3) (.k x103_7)) fun x104_8 h => R ⟨(upd (upd (upd (upd (upd (upd (upd (upd (upd t 96 x96_0) 97 x97_1) 98 x98_2) 99 x99_3) 100 x100_4) 101 x101_5) 102 x102_6) 103 x103_7) 104 x104_8), h⟩) := by kernel_rfl
def o10_31_7g : List (Nat × AOper) := (25, ⟨some 86, .mov (.t 9), none⟩) ::
   (26, ⟨some 87, .mov (.t 6), none⟩) ::
   (27, ⟨some 88, .mov (.t 15), none⟩) ::
   (28, ⟨some 89, .iadr 4 (.t 87) (.t 88), none⟩) ::
   (29, ⟨some 90, .fadr 0 (.t 89), none⟩) ::
   (30, ⟨some 91, .load none (.t 90), none⟩) ::
   (31, ⟨some 92, .iadr 1 (.t 86) (.t 91), none⟩) ::
   (32, ⟨some 93, .load none (.t 92), none⟩) ::
   (33, ⟨some 94, .mov (.t 6), none⟩) ::
   (34, ⟨some 95, .mov (.t 15), none⟩) ::
   o10_31_7g_1
theorem h10_31_7g : wS fs out b o10_31_7g t h R = (wV fs out (b + 25) noT h (.mov (.k (t 9))) fun x86_0 h => wV fs out (b + 26) noT h (.mov (.k (t 6))) fun x87_1 h => wV fs out (b + 27) noT h (.mov (.k (t 15))) fun x88_2 h => wV fs out (b + 28) noT h (.iadr 4 (.k x87_1) (.k x88_2)) fun x89_3 h => wV fs out (b + 29) noT h (.fadr 0 (.k x89_3)) fun x90_4 h => wV fs out (b + 30) noT h (.load none (.k x90_4)) fun x91_5 h => wV fs out (b + 31) noT h (.iadr 1 (.k x86_0) (.k x91_5)) fun x92_6 h => wV fs out (b + 32) noT h (.load none (.k x92_6)) fun x93_7 h => wV fs out (b + 33) noT h (.mov (.k (t 6))) fun x94_8 h => wV fs out (b + 34) noT h (.mov (.k (t 15))) fun x95_9 h => wS fs out b o10_31_7g_1 (upd (upd (upd (upd (upd (upd (upd (upd (upd (upd t 86 x86_0) 87 x87_1) 88 x88_2) 89 x89_3) 90 x90_4) 91 x91_5) 92 x92_6) 93 x93_7) 94 x94_8) 95 x95_9) h R) := by kernel_rfl
def o10_31_7 : List (Nat × AOper) := grp 85 false o10_31_7g o10_31_8
theorem w10_31_7 : wS fs out b o10_31_7 t h R = onG (t 85) false (wS fs out b o10_31_7g (upd t 85 (.v (.one (.bool false)))) h fun s => wS fs out b o10_31_8 s.t s.h R) (wS fs out b o10_31_8 (upd (upd (upd (upd (upd (upd (upd (upd (upd (upd (upd (upd (upd (upd (upd (upd (upd (upd (upd (upd t 85 (.v (.one (.bool true)))) 86 (.tup [])) 87 (.tup [])) 88 (.tup [])) 89 (.tup [])) 90 (.tup [])) 91 (.tup [])) 92 (.tup [])) 93 (.tup [])) 94 (.tup [])) 95 (.tup [])) 96 (.tup [])) 97 (.tup [])) 98 (.tup [])) 99 (.tup [])) 100 (.tup [])) 101 (.tup [])) 102 (.tup [])) 103 (.tup [])) 104 (.tup [])) h R) (wS fs out b o10_31_8 (upd (upd (upd (upd (upd (upd (upd (upd (upd (upd (upd (upd (upd (upd (upd (upd (upd (upd (upd t 86 (.tup [])) 87 (.tup [])) 88 (.tup [])) 89 (.tup [])) 90 (.tup [])) 91 (.tup [])) 92 (.tup [])) 93 (.tup [])) 94 (.tup [])) 95 (.tup [])) 96 (.tup [])) 97 (.tup [])) 98 (.tup [])) 99 (.tup [])) 100 (.tup [])) 101 (.tup [])) 102 (.tup [])) 103 (.tup [])) 104 (.tup [])) h R) := wS_grpE rfl
def o10_31_6 : List (Nat × AOper) := (23, ⟨some 84, .pick (.t 78) (.k (.v (.one (.bool true)))) (.t 83), none⟩) ::
   (24, ⟨some 85, .mov (.t 84), none⟩) ::
   o10_31_7
theorem h10_31_6 : wS fs out b o10_31_6 t h R = (wV fs out (b + 23) noT h (.pick (.k (t 78)) (.k (.v (.one (.bool true)))) (.k (t 83))) fun x84_0 h => wV fs out (b + 24) noT h (.mov (.k x84_0)) fun x85_1 h => wS fs out b o10_31_7 (upd (upd t 84 x84_0) 85 x85_1) h R) := by kernel_rfl
def o10_31_5g : List (Nat × AOper) := (18, ⟨some 79, .mov (.t 10), none⟩) ::
   (19, ⟨some 80, .mov (.t 15), none⟩) ::
   (20, ⟨some 81, .iadr 1 (.t 79) (.t 80), none⟩) ::
   (21, ⟨some 82, .load none (.t 81), none⟩) ::
   (22, ⟨some 83, .not (.t 82), none⟩) ::
   []
theorem h10_31_5g : wS fs out b o10_31_5g t h R = (wV fs out (b + 18) noT h (.mov (.k (t 10))) fun x79_0 h => wV fs out (b + 19) noT h (.mov (.k (t 15))) fun x80_1 h => wV fs out (b + 20) noT h (.iadr 1 (.k x79_0) (.k x80_1)) fun x81_2 h => wV fs out (b + 21) noT h (.load none (.k x81_2)) fun x82_3 h => wV fs out (b + 22) noT h (.not (.k x82_3)) fun x83_4 h => R ⟨(upd (upd (upd (upd (upd t 79 x79_0) 80 x80_1) 81 x81_2) 82 x82_3) 83 x83_4), h⟩) := by kernel_rfl
def o10_31_5 : List (Nat × AOper) := grp 78 false o10_31_5g o10_31_6
theorem w10_31_5 : wS fs out b o10_31_5 t h R = onG (t 78) false (wS fs out b o10_31_5g (upd t 78 (.v (.one (.bool false)))) h fun s => wS fs out b o10_31_6 s.t s.h R) (wS fs out b o10_31_6 (upd (upd (upd (upd (upd (upd t 78 (.v (.one (.bool true)))) 79 (.tup [])) 80 (.tup [])) 81 (.tup [])) 82 (.tup [])) 83 (.tup [])) h R) (wS fs out b o10_31_6 (upd (upd (upd (upd (upd t 79 (.tup [])) 80 (.tup [])) 81 (.tup [])) 82 (.tup [])) 83 (.tup [])) h R) := wS_grpE rfl
def o10_31_4 : List (Nat × AOper) := (16, ⟨some 77, .pick (.t 69) (.k (.v (.one (.bool true)))) (.t 76), none⟩) ::
   (17, ⟨some 78, .mov (.t 77), none⟩) ::
   o10_31_5
theorem h10_31_4 : wS fs out b o10_31_4 t h R = (wV fs out (b + 16) noT h (.pick (.k (t 69)) (.k (.v (.one (.bool true)))) (.k (t 76))) fun x77_0 h => wV fs out (b + 17) noT h (.mov (.k x77_0)) fun x78_1 h => wS fs out b o10_31_5 (upd (upd t 77 x77_0) 78 x78_1) h R) := by kernel_rfl
def o10_31_3g : List (Nat × AOper) := (9, ⟨some 70, .mov (.t 6), none⟩) ::
   (10, ⟨some 71, .mov (.t 15), none⟩) ::
   (11, ⟨some 72, .iadr 4 (.t 70) (.t 71), none⟩) ::
   (12, ⟨some 73, .fadr 1 (.t 72), none⟩) ::
   (13, ⟨some 74, .load none (.t 73), none⟩) ::
   (14, ⟨some 75, .mov (.t 8), none⟩) ::
   (15, ⟨some 76, .bin .neq (.t 74) (.t 75), none⟩) ::
   []
theorem h10_31_3g : wS fs out b o10_31_3g t h R = (wV fs out (b + 9) noT h (.mov (.k (t 6))) fun x70_0 h => wV fs out (b + 10) noT h (.mov (.k (t 15))) fun x71_1 h => wV fs out (b + 11) noT h (.iadr 4 (.k x70_0) (.k x71_1)) fun x72_2 h => wV fs out (b + 12) noT h (.fadr 1 (.k x72_2)) fun x73_3 h => wV fs out (b + 13) noT h (.load none (.k x73_3)) fun x74_4 h => wV fs out (b + 14) noT h (.mov (.k (t 8))) fun x75_5 h => wV fs out (b + 15) noT h (.bin .neq (.k x74_4) (.k x75_5)) fun x76_6 h => R ⟨(upd (upd (upd (upd (upd (upd (upd t 70 x70_0) 71 x71_1) 72 x72_2) 73 x73_3) 74 x74_4) 75 x75_5) 76 x76_6), h⟩) := by kernel_rfl
def o10_31_3 : List (Nat × AOper) := grp 69 false o10_31_3g o10_31_4
theorem w10_31_3 : wS fs out b o10_31_3 t h R = onG (t 69) false (wS fs out b o10_31_3g (upd t 69 (.v (.one (.bool false)))) h fun s => wS fs out b o10_31_4 s.t s.h R) (wS fs out b o10_31_4 (upd (upd (upd (upd (upd (upd (upd (upd t 69 (.v (.one (.bool true)))) 70 (.tup [])) 71 (.tup [])) 72 (.tup [])) 73 (.tup [])) 74 (.tup [])) 75 (.tup [])) 76 (.tup [])) h R) (wS fs out b o10_31_4 (upd (upd (upd (upd (upd (upd (upd t 70 (.tup [])) 71 (.tup [])) 72 (.tup [])) 73 (.tup [])) 74 (.tup [])) 75 (.tup [])) 76 (.tup [])) h R) := wS_grpE rfl
def o10_31_2 : List (Nat × AOper) := (7, ⟨some 68, .pick (.t 63) (.k (.v (.one (.bool true)))) (.t 67), none⟩) ::
   (8, ⟨some 69, .mov (.t 68), none⟩) ::
   o10_31_3
theorem h10_31_2 : wS fs out b o10_31_2 t h R = (wV fs out (b + 7) noT h (.pick (.k (t 63)) (.k (.v (.one (.bool true)))) (.k (t 67))) fun x68_0 h => wV fs out (b + 8) noT h (.mov (.k x68_0)) fun x69_1 h => wS fs out b o10_31_3 (upd (upd t 68 x68_0) 69 x69_1) h R) := by kernel_rfl
def o10_31_1g : List (Nat × AOper) := (3, ⟨some 64, .mov (.t 15), none⟩) ::
   (4, ⟨some 65, .mov (.t 6), none⟩) ::
   (5, ⟨some 66, .len (.t 65), none⟩) ::
   (6, ⟨some 67, .bin .geq (.t 64) (.t 66), none⟩) ::
   []
theorem h10_31_1g : wS fs out b o10_31_1g t h R = (wV fs out (b + 3) noT h (.mov (.k (t 15))) fun x64_0 h => wV fs out (b + 4) noT h (.mov (.k (t 6))) fun x65_1 h => wV fs out (b + 5) noT h (.len (.k x65_1)) fun x66_2 h => wV fs out (b + 6) noT h (.bin .geq (.k x64_0) (.k x66_2)) fun x67_3 h => R ⟨(upd (upd (upd (upd t 64 x64_0) 65 x65_1) 66 x66_2) 67 x67_3), h⟩) := by kernel_rfl
def o10_31_1 : List (Nat × AOper) := grp 63 false o10_31_1g o10_31_2
theorem w10_31_1 : wS fs out b o10_31_1 t h R = onG (t 63) false (wS fs out b o10_31_1g (upd t 63 (.v (.one (.bool false)))) h fun s => wS fs out b o10_31_2 s.t s.h R) (wS fs out b o10_31_2 (upd (upd (upd (upd (upd t 63 (.v (.one (.bool true)))) 64 (.tup [])) 65 (.tup [])) 66 (.tup [])) 67 (.tup [])) h R) (wS fs out b o10_31_2 (upd (upd (upd (upd t 64 (.tup [])) 65 (.tup [])) 66 (.tup [])) 67 (.tup [])) h R) := wS_grpE rfl
def o10_31 : List (Nat × AOper) := (0, ⟨some 61, .mov (.t 15), none⟩) ::
   (1, ⟨some 62, .bin .lss (.t 61) (.k (.v (.one (.int .i64 0)))), none⟩) ::
   (2, ⟨some 63, .mov (.t 62), none⟩) ::
   o10_31_1
theorem h10_31 : wS fs out b o10_31 t h R = (wV fs out (b + 0) noT h (.mov (.k (t 15))) fun x61_0 h => wV fs out (b + 1) noT h (.bin .lss (.k x61_0) (.k (.v (.one (.int .i64 0))))) fun x62_1 h => wV fs out (b + 2) noT h (.mov (.k x62_1)) fun x63_2 h => wS fs out b o10_31_1 (upd (upd (upd t 61 x61_0) 62 x62_1) 63 x63_2) h R) := by kernel_rfl
def c10_31 : ACode := .region (o10_31.map (·.2)) [0, 1, 2, 3, 4, 5, 6, 7, 8, 9, 10, 11, 12, 13, 14, 15, 16, 17, 18, 19, 20, 21, 22, 23, 24, 25, 26, 27, 28, 29, 30, 31, 32, 33, 34, 35, 36, 37, 38, 39, 40, 41, 42, 43, 44] []
theorem s10_31 (h : wS fs out s.h.nx o10_31 s.t ⟨s.h.o, s.h.nx + 45⟩ (Q .normal)) : wC fs out c10_31 s Q := wC_region rfl rfl h
def o10_34 : List (Nat × AOper) := (0, ⟨some 4, .mov (.k (.v (.one (.bool false)))), none⟩) ::
   []
theorem h10_34 : wS fs out b o10_34 t h R = (wV fs out (b + 0) noT h (.mov (.k (.v (.one (.bool false))))) fun x4_0 h => R ⟨(upd t 4 x4_0), h⟩) := by kernel_rfl
def c10_34 : ACode := .region (o10_34.map (·.2)) [0] []
theorem s10_34 (h : wS fs out s.h.nx o10_34 s.t ⟨s.h.o, s.h.nx + 1⟩ (Q .normal)) : wC fs out c10_34 s Q := wC_region rfl rfl h
def c10_33 : ACode := .seq c10_34 .ret
theorem s10_33 (h : wS fs out s.h.nx o10_34 s.t ⟨s.h.o, s.h.nx + 1⟩ fun s1 => wC fs out .ret s1 Q) : wC fs out c10_33 s Q := wC_seq (s10_34 h)
def c10_32 : ACode := .cond (.t 105) c10_33 .skip [4, 5, 6, 7, 9, 10, 15, 55, 56, 57]
theorem s10_32 (h : onC (s.t 105) (wC fs out c10_33 s fun e s1 => Q e (keepOnly [4, 5, 6, 7, 9, 10, 15, 55, 56, 57] s1)) (Q .normal (keepOnly [4, 5, 6, 7, 9, 10, 15, 55, 56, 57] s))) : wC fs out c10_32 s Q := wC_condC (by first | exact h | (simp only [wC_skip, wC_exit, wC_ret]; exact h))
def c10_30 : ACode := .seq c10_31 c10_32
theorem s10_30 (h : wS fs out s.h.nx o10_31 s.t ⟨s.h.o, s.h.nx + 45⟩ fun s1 => wC fs out c10_32 s1 Q) : wC fs out c10_30 s Q := wC_seq (s10_31 h)
def o10_35 : List (Nat × AOper) := (0, ⟨some 106, .mov (.t 6), none⟩) ::
   (1, ⟨some 107, .mov (.t 15), none⟩) ::
   (2, ⟨some 108, .iadr 4 (.t 106) (.t 107), none⟩) ::
   (3, ⟨some 109, .fadr 0 (.t 108), none⟩) ::
   (4, ⟨some 110, .load none (.t 109), none⟩) ::
   (5, ⟨some 8, .mov (.t 110), none⟩) ::
   []
theorem h10_35 : wS fs out b o10_35 t h R = (wV fs out (b + 0) noT h (.mov (.k (t 6))) fun x106_0 h => wV fs out (b + 1) noT h (.mov (.k (t 15))) fun x107_1 h => wV fs out (b + 2) noT h (.iadr 4 (.k x106_0) (.k x107_1)) fun x108_2 h => wV fs out (b + 3) noT h (.fadr 0 (.k x108_2)) fun x109_3 h => wV fs out (b + 4) noT h (.load none (.k x109_3)) fun x110_4 h => wV fs out (b + 5) noT h (.mov (.k x110_4)) fun x8_5 h => R ⟨(upd (upd (upd (upd (upd (upd t 106 x106_0) 107 x107_1) 108 x108_2) 109 x109_3) 110 x110_4) 8 x8_5), h⟩) := by kernel_rfl
def c10_35 : ACode := .region (o10_35.map (·.2)) [0, 1, 2, 3, 4, 5] []
theorem s10_35 (h : wS fs out s.h.nx o10_35 s.t ⟨s.h.o, s.h.nx + 6⟩ (Q .normal)) : wC fs out c10_35 s Q := wC_region rfl rfl h
def c10_29 : ACode := .seq c10_30 c10_35
theorem s10_29 (h : wC fs out c10_30 s fun e s1 => match e with | .normal => wC fs out c10_35 s1 Q | e => Q e s1) : wC fs out c10_29 s Q := wC_seq h
def c10_27 : ACode := .seq c10_28 c10_29
theorem s10_27 (h : wS fs out s.h.nx o10_28 s.t ⟨s.h.o, s.h.nx + 3⟩ fun s1 => wC fs out c10_29 s1 Q) : wC fs out c10_27 s Q := wC_seq (s10_28 h)
def c10_26 : ACode := .block 1 c10_27
theorem s10_26 (h : wC fs out c10_27 s fun e s1 => Q (if e = .exit 1 then .normal else e) s1) : wC fs out c10_26 s Q := wC_block h
def o10_36 : List (Nat × AOper) := (0, ⟨some 111, .bin .add (.t 57) (.k (.v (.one (.int .i64 1)))), none⟩) ::
   (1, ⟨some 57, .mov (.t 111), none⟩) ::
   []
theorem h10_36 : wS fs out b o10_36 t h R = (wV fs out (b + 0) noT h (.bin .add (.k (t 57)) (.k (.v (.one (.int .i64 1))))) fun x111_0 h => wV fs out (b + 1) noT h (.mov (.k x111_0)) fun x57_1 h => R ⟨(upd (upd t 111 x111_0) 57 x57_1), h⟩) := by kernel_rfl
def c10_36 : ACode := .region (o10_36.map (·.2)) [0, 1] []
theorem s10_36 (h : wS fs out s.h.nx o10_36 s.t ⟨s.h.o, s.h.nx + 2⟩ (Q .normal)) : wC fs out c10_36 s Q := wC_region rfl rfl h
def c10_25 : ACode := .seq c10_26 c10_36
theorem s10_25 (h : wC fs out c10_26 s fun e s1 => match e with | .normal => wC fs out c10_36 s1 Q | e => Q e s1) : wC fs out c10_25 s Q := wC_seq h
def c10_23 : ACode := .seq c10_24 c10_25
theorem s10_23 (h : onC (s.t 58) (wC fs out c10_25 (keepOnly [5, 6, 7, 8, 9, 10, 55, 56, 57] s) Q) (Q (.exit 0) (keepOnly [5, 6, 7, 8, 9, 10, 55, 56, 57] s))) : wC fs out c10_23 s Q := wC_seq (s10_24 h)
def c10_21 : ACode := .seq c10_22 c10_23
theorem s10_21 (h : wS fs out s.h.nx o10_22 s.t ⟨s.h.o, s.h.nx + 1⟩ fun s1 => wC fs out c10_23 s1 Q) : wC fs out c10_21 s Q := wC_seq (s10_22 h)
def c10_20 : ACode := .loop [5, 6, 7, 8, 9, 10, 55, 56, 57] c10_21
theorem s10_20 (I : Nat → St → Prop) (n : Nat) (h0 : I n (keepOnly [5, 6, 7, 8, 9, 10, 55, 56, 57] s)) (step : ∀ m s (Q' : AExit → St → Prop), I m s → (∀ m' s1, m' < m → I m' (keepOnly [5, 6, 7, 8, 9, 10, 55, 56, 57] s1) → Q' .normal s1) → (∀ i s1, Q (.exit i) s1 → Q' (.exit i) s1) → (∀ s1, Q .ret s1 → Q' .ret s1) → wC fs out c10_21 s Q') : wC fs out c10_20 s Q := wC_loopQ I n h0 step
def c10_19 : ACode := .block 0 c10_20
theorem s10_19 (h : wC fs out c10_20 s fun e s1 => Q (if e = .exit 0 then .normal else e) s1) : wC fs out c10_19 s Q := wC_block h
def c10_17 : ACode := .seq c10_18 c10_19
theorem s10_17 (h : wS fs out s.h.nx o10_18 s.t ⟨s.h.o, s.h.nx + 3⟩ fun s1 => wC fs out c10_19 s1 Q) : wC fs out c10_17 s Q := wC_seq (s10_18 h)
def o10_38_1 : List (Nat × AOper) := (6, ⟨some 112, .mov (.t 118), none⟩) ::
   (7, ⟨some 119, .ext 0 (.t 112), none⟩) ::
   (8, ⟨some 120, .ext 1 (.t 112), none⟩) ::
   (9, ⟨some 16, .mov (.t 119), none⟩) ::
   (10, ⟨some 17, .mov (.t 120), none⟩) ::
   []
theorem h10_38_1 : wS fs out b o10_38_1 t h R = (wV fs out (b + 6) noT h (.mov (.k (t 118))) fun x112_0 h => wV fs out (b + 7) noT h (.ext 0 (.k x112_0)) fun x119_1 h => wV fs out (b + 8) noT h (.ext 1 (.k x112_0)) fun x120_2 h => wV fs out (b + 9) noT h (.mov (.k x119_1)) fun x16_3 h => wV fs out (b + 10) noT h (.mov (.k x120_2)) fun x17_4 h => R ⟨(upd (upd (upd (upd (upd t 112 x112_0) 119 x119_1) 120 x120_2) 16 x16_3) 17 x17_4), h⟩) := by kernel_rfl
def o10_38 : List (Nat × AOper) := (0, ⟨some 113, .mov (.t 5), none⟩) ::
   (1, ⟨some 114, .mov (.t 6), none⟩) ::
   (2, ⟨some 115, .mov (.t 7), none⟩) ::
   (3, ⟨some 116, .mov (.t 5), none⟩) ::
   (4, ⟨some 117, .len (.t 116), none⟩) ::
   (5, ⟨some 118, .call 20 [(.t 113), (.t 114), (.t 115), (.t 117)], none⟩) ::
   o10_38_1
theorem h10_38 : wS fs out b o10_38 t h R = (wV fs out (b + 0) noT h (.mov (.k (t 5))) fun x113_0 h => wV fs out (b + 1) noT h (.mov (.k (t 6))) fun x114_1 h => wV fs out (b + 2) noT h (.mov (.k (t 7))) fun x115_2 h => wV fs out (b + 3) noT h (.mov (.k (t 5))) fun x116_3 h => wV fs out (b + 4) noT h (.len (.k x116_3)) fun x117_4 h => wV fs out (b + 5) noT h (.call 20 [(.k x113_0), (.k x114_1), (.k x115_2), (.k x117_4)]) fun x118_5 h => wS fs out b o10_38_1 (upd (upd (upd (upd (upd (upd t 113 x113_0) 114 x114_1) 115 x115_2) 116 x116_3) 117 x117_4) 118 x118_5) h R) := by kernel_rfl
def c10_38 : ACode := .region (o10_38.map (·.2)) [0, 1, 2, 3, 4, 5, 6, 7, 8, 9, 10] []
theorem s10_38 (h : wS fs out s.h.nx o10_38 s.t ⟨s.h.o, s.h.nx + 11⟩ (Q .normal)) : wC fs out c10_38 s Q := wC_region rfl rfl h
def o10_40_1 : List (Nat × AOper) := (4, ⟨some 121, .mov (.t 125), none⟩) ::
   (5, ⟨some 126, .ext 0 (.t 121), none⟩) ::
   (6, ⟨some 127, .ext 1 (.t 121), none⟩) ::
   (7, ⟨some 18, .mov (.t 126), none⟩) ::
   (8, ⟨some 19, .mov (.t 127), none⟩) ::
   []
theorem h10_40_1 : wS fs out b o10_40_1 t h R = (wV fs out (b + 4) noT h (.mov (.k (t 125))) fun x121_0 h => wV fs out (b + 5) noT h (.ext 0 (.k x121_0)) fun x126_1 h => wV fs out (b + 6) noT h (.ext 1 (.k x121_0)) fun x127_2 h => wV fs out (b + 7) noT h (.mov (.k x126_1)) fun x18_3 h => wV fs out (b + 8) noT h (.mov (.k x127_2)) fun x19_4 h => R ⟨(upd (upd (upd (upd (upd t 121 x121_0) 126 x126_1) 127 x127_2) 18 x18_3) 19 x19_4), h⟩) := by kernel_rfl
def o10_40 : List (Nat × AOper) := (0, ⟨some 122, .mov (.t 5), none⟩) ::
   (1, ⟨some 123, .mov (.t 6), none⟩) ::
   (2, ⟨some 124, .mov (.t 7), none⟩) ::
   (3, ⟨some 125, .call 20 [(.t 122), (.t 123), (.t 124), (.k (.v (.one (.int .i64 (-1)))))], none⟩) ::
   o10_40_1
theorem h10_40 : wS fs out b o10_40 t h R = (wV fs out (b + 0) noT h (.mov (.k (t 5))) fun x122_0 h => wV fs out (b + 1) noT h (.mov (.k (t 6))) fun x123_1 h => wV fs out (b + 2) noT h (.mov (.k (t 7))) fun x124_2 h => wV fs out (b + 3) noT h (.call 20 [(.k x122_0), (.k x123_1), (.k x124_2), (.k (.v (.one (.int .i64 (-1)))))]) fun x125_3 h => wS fs out b o10_40_1 (upd (upd (upd (upd t 122 x122_0) 123 x123_1) 124 x124_2) 125 x125_3) h R) := by kernel_rfl
def c10_40 : ACode := .region (o10_40.map (·.2)) [0, 1, 2, 3, 4, 5, 6, 7, 8] []
theorem s10_40 (h : wS fs out s.h.nx o10_40 s.t ⟨s.h.o, s.h.nx + 9⟩ (Q .normal)) : wC fs out c10_40 s Q := wC_region rfl rfl h
def o10_42_5 : List (Nat × AOper) := (8, ⟨some 136, .pick (.t 133) (.t 135) (.k (.v (.one (.bool false)))), none⟩) ::
   (9, ⟨some 4, .mov (.t 136), none⟩) ::
   []
theorem h10_42_5 : wS fs out b o10_42_5 t h R = (wV fs out (b + 8) noT h (.pick (.k (t 133)) (.k (t 135)) (.k (.v (.one (.bool false))))) fun x136_0 h => wV fs out (b + 9) noT h (.mov (.k x136_0)) fun x4_1 h => R ⟨(upd (upd t 136 x136_0) 4 x4_1), h⟩) := by kernel_rfl
def o10_42_4g : List (Nat × AOper) := (6, ⟨some 134, .mov (.t 19), none⟩) ::
   (7, ⟨some 135, .bin .eql (.t 134) (.k (.v (.one (.int .i64 4)))), none⟩) ::
   []
theorem h10_42_4g : wS fs out b o10_42_4g t h R = (wV fs out (b + 6) noT h (.mov (.k (t 19))) fun x134_0 h => wV fs out (b + 7) noT h (.bin .eql (.k x134_0) (.k (.v (.one (.int .i64 4))))) fun x135_1 h => R ⟨(upd (upd t 134 x134_0) 135 x135_1), h⟩) := by kernel_rfl
def o10_42_4 : List (Nat × AOper) := grp 133 true o10_42_4g o10_42_5
theorem w10_42_4 : wS fs out b o10_42_4 t h R = onG (t 133) true (wS fs out b o10_42_4g (upd t 133 (.v (.one (.bool true)))) h fun s => wS fs out b o10_42_5 s.t s.h R) (wS fs out b o10_42_5 (upd (upd (upd t 133 (.v (.one (.bool false)))) 134 (.tup [])) 135 (.tup [])) h R) (wS fs out b o10_42_5 (upd (upd t 134 (.tup [])) 135 (.tup [])) h R) := wS_grpE rfl
def o10_42_3 : List (Nat × AOper) := (4, ⟨some 132, .pick (.t 129) (.t 131) (.k (.v (.one (.bool false)))), none⟩) ::
   (5, ⟨some 133, .mov (.t 132), none⟩) ::
   o10_42_4
theorem h10_42_3 : wS fs out b o10_42_3 t h R = (wV fs out (b + 4) noT h (.pick (.k (t 129)) (.k (t 131)) (.k (.v (.one (.bool false))))) fun x132_0 h => wV fs out (b + 5) noT h (.mov (.k x132_0)) fun x133_1 h => wS fs out b o10_42_4 (upd (upd t 132 x132_0) 133 x133_1) h R) := by kernel_rfl
def o10_42_2g : List (Nat × AOper) := (2, ⟨some 130, .mov (.t 17), none⟩) ::
   (3, ⟨some 131, .bin .eql (.t 130) (.k (.v (.one (.int .i64 4)))), none⟩) ::
   []
theorem h10_42_2g : wS fs out b o10_42_2g t h R = (wV fs out (b + 2) noT h (.mov (.k (t 17))) fun x130_0 h => wV fs out (b + 3) noT h (.bin .eql (.k x130_0) (.k (.v (.one (.int .i64 4))))) fun x131_1 h => R ⟨(upd (upd t 130 x130_0) 131 x131_1), h⟩) := by kernel_rfl
def o10_42_2 : List (Nat × AOper) := grp 129 true o10_42_2g o10_42_3
theorem w10_42_2 : wS fs out b o10_42_2 t h R = onG (t 129) true (wS fs out b o10_42_2g (upd t 129 (.v (.one (.bool true)))) h fun s => wS fs out b o10_42_3 s.t s.h R) (wS fs out b o10_42_3 (upd (upd (upd t 129 (.v (.one (.bool false)))) 130 (.tup [])) 131 (.tup [])) h R) (wS fs out b o10_42_3 (upd (upd t 130 (.tup [])) 131 (.tup [])) h R) := wS_grpE rfl
def o10_42_1 : List (Nat × AOper) := (1, ⟨some 129, .mov (.t 128), none⟩) ::
   o10_42_2
theorem h10_42_1 : wS fs out b o10_42_1 t h R = (wV fs out (b + 1) noT h (.mov (.k (t 128))) fun x129_0 h => wS fs out b o10_42_2 (upd t 129 x129_0) h R) := by kernel_rfl
def o10_42 : List (Nat × AOper) := (0, ⟨some 128, .call 14 [], none⟩) ::
   o10_42_1
theorem h10_42 : wS fs out b o10_42 t h R = (wV fs out (b + 0) noT h (.call 14 []) fun x128_0 h => wS fs out b o10_42_1 (upd t 128 x128_0) h R) := by kernel_rfl
def c10_42 : ACode := .region (o10_42.map (·.2)) [0, 1, 2, 3, 4, 5, 6, 7, 8, 9] []
theorem s10_42 (h : wS fs out s.h.nx o10_42 s.t ⟨s.h.o, s.h.nx + 10⟩ (Q .normal)) : wC fs out c10_42 s Q := wC_region rfl rfl h
def c10_41 : ACode := .seq c10_42 .ret
theorem s10_41 (h : wS fs out s.h.nx o10_42 s.t ⟨s.h.o, s.h.nx + 10⟩ fun s1 => wC fs out .ret s1 Q) : wC fs out c10_41 s Q := wC_seq (s10_42 h)
def c10_39 : ACode := .seq c10_40 c10_41
theorem s10_39 (h : wS fs out s.h.nx o10_40 s.t ⟨s.h.o, s.h.nx + 9⟩ fun s1 => wC fs out c10_41 s1 Q) : wC fs out c10_39 s Q := wC_seq (s10_40 h)
def c10_37 : ACode := .seq c10_38 c10_39
theorem s10_37 (h : wS fs out s.h.nx o10_38 s.t ⟨s.h.o, s.h.nx + 11⟩ fun s1 => wC fs out c10_39 s1 Q) : wC fs out c10_37 s Q := wC_seq (s10_38 h)
def c10_16 : ACode := .seq c10_17 c10_37
theorem s10_16 (h : wC fs out c10_17 s fun e s1 => match e with | .normal => wC fs out c10_37 s1 Q | e => Q e s1) : wC fs out c10_16 s Q := wC_seq h
def c10_10 : ACode := .seq c10_11 c10_16
theorem s10_10 (h : wC fs out c10_11 s fun e s1 => match e with | .normal => wC fs out c10_16 s1 Q | e => Q e s1) : wC fs out c10_10 s Q := wC_seq h
def c10_8 : ACode := .seq c10_9 c10_10
theorem s10_8 (h : wS fs out s.h.nx o10_9 s.t ⟨s.h.o, s.h.nx + 10⟩ fun s1 => wC fs out c10_10 s1 Q) : wC fs out c10_8 s Q := wC_seq (s10_9 h)
def c10_6 : ACode := .seq c10_7 c10_8
theorem s10_6 (h : wS fs out s.h.nx o10_7 s.t ⟨s.h.o, s.h.nx + 11⟩ fun s1 => wC fs out c10_8 s1 Q) : wC fs out c10_6 s Q := wC_seq (s10_7 h)
def c10_4 : ACode := .seq c10_5 c10_6
theorem s10_4 (h : wS fs out s.h.nx o10_5 s.t ⟨s.h.o, s.h.nx + 5⟩ fun s1 => wC fs out c10_6 s1 Q) : wC fs out c10_4 s Q := wC_seq (s10_5 h)
def c10_2 : ACode := .seq c10_3 c10_4
theorem s10_2 (h : wS fs out s.h.nx o10_3 s.t ⟨s.h.o, s.h.nx + 9⟩ fun s1 => wC fs out c10_4 s1 Q) : wC fs out c10_2 s Q := wC_seq (s10_3 h)
def c10_0 : ACode := .seq c10_1 c10_2
theorem s10_0 (h : wS fs out s.h.nx o10_1 s.t ⟨s.h.o, s.h.nx + 1⟩ fun s1 => wC fs out c10_2 s1 Q) : wC fs out c10_0 s Q := wC_seq (s10_1 h)
def a10 : AFunc := ⟨2, [4], none, c10_0⟩
theorem t10 : tell Try.prog Try.f10 [([4, 5, 6, 7, 8, 9, 10, 12], [], []), ([5, 6, 7, 8, 9, 10, 55, 56, 57], [], []), ([5, 6, 7, 8, 9, 10, 55, 56, 57], [], []), ([0, 1, 2, 3, 4, 5, 6, 7, 8, 9, 10, 11, 12, 13, 14, 15, 16, 17, 18, 19, 20, 21, 22, 23, 24, 25, 26, 27, 28, 29, 30, 31, 32, 33, 34, 35, 36, 37, 38, 39, 40, 41, 42, 43, 44], [], [0, 1, 3, 7, 7, 23, 63, 127, 255, 511, 511, 2047, 4095, 8191, 511, 32767, 65535, 131071, 262143, 262143, 1048575, 2097151, 4194303, 8388607, 16777215, 33554431, 33554431, 33554431, 234881023, 503316479, 1040187391, 2147483647, 4294967295, 33554431, 33554431, 25803358207, 60163096575, 128882573311, 274877906943, 33554431, 33554431, 1649300996095, 3848324251647, 8796093022207, 17592186044415]), ([4, 5, 6, 7, 9, 10, 15, 55, 56, 57], [], [])] = some a10 := by kernel_rfl
theorem ok10 : FuncOk Try.prog 10 a10 := tell_ok Try.func10 t10

end
def fl10 (f : Nat) : Option AFunc := if f = 10 then some a10 else fs f
theorem fl10_ok : ∀ f fn, fl10 f = some fn → FuncOk Try.prog f fn := by
  intro f fn h
  unfold fl10 at h
  split at h
  · rename_i hf; subst hf; cases h; exact ok10
  · exact fs_ok f fn h
theorem fs10 : fl10 10 = some a10 := by simp [fl10]
theorem lift10 {f : Nat} {args : List T} {h : AH} {Q : T → AH → Prop} (hw : wF fs out f args h Q) : wF fl10 out f args h Q := by
  refine wF_ext (fun f fn hf => ?_) (fun f hf hf' args h => ?_) hw
  · unfold fl10; rw [if_neg (fun e => by subst e; cases hf)]; exact hf
  · unfold fl10 at hf'; split at hf'
    · rename_i e; subst e; cases args <;> rfl
    · exact absurd hf hf'
end Go.Proofs.Ythoicdnlcnppgaa.Fn
