/- A law's function, as the abstract machine's, and that it is. Conditions: none. -/
import Derived.Test.YthoicdnlcnppgaaFn
set_option linter.unusedVariables false
set_option linter.unusedSimpArgs false
namespace Go.Proofs.Ythoicdnlcnppgaa.Fn
open Go Go.Am
set_option maxRecDepth 100000
section
variable {fs : Nat → Option AFunc} {out : Rec} {s : St} {Q : AExit → St → Prop} {b : Nat} {t : Nat → T} {h : AH} {R : St → Prop}
/-- railplan/railplanlaw34.DelayWaits -/
def o3_1 : List (Nat × AOper) := (0, ⟨some 2, .mov (.k (.v (.one (.bool false)))), none⟩) ::
   []
theorem h3_1 : wS fs out b o3_1 t h R = (wV fs out (b + 0) noT h (.mov (.k (.v (.one (.bool false))))) fun x2_0 h => R ⟨(upd t 2 x2_0), h⟩) := by kernel_rfl
def c3_1 : ACode := .region (o3_1.map (·.2)) [0] []
theorem s3_1 (h : wS fs out s.h.nx o3_1 s.t ⟨s.h.o, s.h.nx + 1⟩ (Q .normal)) : wC fs out c3_1 s Q := wC_region rfl rfl h
def o3_3_1 : List (Nat × AOper) := (2, ⟨some 13, .mov (.t 15), none⟩) ::
   (3, ⟨some 16, .ext 0 (.t 13), none⟩) ::
   (4, ⟨some 17, .ext 1 (.t 13), none⟩) ::
   (5, ⟨some 18, .ext 2 (.t 13), none⟩) ::
   (6, ⟨some 3, .mov (.t 16), none⟩) ::
   (7, ⟨some 4, .mov (.t 17), none⟩) ::
   (8, ⟨some 5, .mov (.t 18), none⟩) ::
   []
theorem h3_3_1 : wS fs out b o3_3_1 t h R = (wV fs out (b + 2) noT h (.mov (.k (t 15))) fun x13_0 h => wV fs out (b + 3) noT h (.ext 0 (.k x13_0)) fun x16_1 h => wV fs out (b + 4) noT h (.ext 1 (.k x13_0)) fun x17_2 h => wV fs out (b + 5) noT h (.ext 2 (.k x13_0)) fun x18_3 h => wV fs out (b + 6) noT h (.mov (.k x16_1)) fun x3_4 h => wV fs out (b + 7) noT h (.mov (.k x17_2)) fun x4_5 h => wV fs out (b + 8) noT h (.mov (.k x18_3)) fun x5_6 h => R ⟨(upd (upd (upd (upd (upd (upd (upd t 13 x13_0) 16 x16_1) 17 x17_2) 18 x18_3) 3 x3_4) 4 x4_5) 5 x5_6), h⟩) := by kernel_rfl
def o3_3 : List (Nat × AOper) := (0, ⟨some 14, .mov (.t 0), none⟩) ::
   (1, ⟨some 15, .call 12 [(.t 14)], none⟩) ::
   o3_3_1
theorem h3_3 : wS fs out b o3_3 t h R = (wV fs out (b + 0) noT h (.mov (.k (t 0))) fun x14_0 h => wV fs out (b + 1) noT h (.call 12 [(.k x14_0)]) fun x15_1 h => wS fs out b o3_3_1 (upd (upd t 14 x14_0) 15 x15_1) h R) := by kernel_rfl
def c3_3 : ACode := .region (o3_3.map (·.2)) [0, 1, 2, 3, 4, 5, 6, 7, 8] []
theorem s3_3 (h : wS fs out s.h.nx o3_3 s.t ⟨s.h.o, s.h.nx + 9⟩ (Q .normal)) : wC fs out c3_3 s Q := wC_region rfl rfl h
def o3_5_1 : List (Nat × AOper) := (4, ⟨some 19, .mov (.t 23), none⟩) ::
   (5, ⟨some 24, .ext 0 (.t 19), none⟩) ::
   (6, ⟨some 25, .ext 1 (.t 19), none⟩) ::
   (7, ⟨some 26, .ext 2 (.t 19), none⟩) ::
   (8, ⟨some 6, .mov (.t 24), none⟩) ::
   (9, ⟨some 7, .mov (.t 25), none⟩) ::
   (10, ⟨some 8, .mov (.t 26), none⟩) ::
   []
theorem h3_5_1 : wS fs out b o3_5_1 t h R = (wV fs out (b + 4) noT h (.mov (.k (t 23))) fun x19_0 h => wV fs out (b + 5) noT h (.ext 0 (.k x19_0)) fun x24_1 h => wV fs out (b + 6) noT h (.ext 1 (.k x19_0)) fun x25_2 h => wV fs out (b + 7) noT h (.ext 2 (.k x19_0)) fun x26_3 h => wV fs out (b + 8) noT h (.mov (.k x24_1)) fun x6_4 h => wV fs out (b + 9) noT h (.mov (.k x25_2)) fun x7_5 h => wV fs out (b + 10) noT h (.mov (.k x26_3)) fun x8_6 h => R ⟨(upd (upd (upd (upd (upd (upd (upd t 19 x19_0) 24 x24_1) 25 x25_2) 26 x26_3) 6 x6_4) 7 x7_5) 8 x8_6), h⟩) := by kernel_rfl
def o3_5 : List (Nat × AOper) := (0, ⟨some 20, .mov (.t 3), none⟩) ::
   (1, ⟨some 21, .mov (.t 4), none⟩) ::
   (2, ⟨some 22, .mov (.t 5), none⟩) ::
   (3, ⟨some 23, .call 13 [(.t 20), (.t 21), (.t 22)], none⟩) ::
   o3_5_1
theorem h3_5 : wS fs out b o3_5 t h R = (wV fs out (b + 0) noT h (.mov (.k (t 3))) fun x20_0 h => wV fs out (b + 1) noT h (.mov (.k (t 4))) fun x21_1 h => wV fs out (b + 2) noT h (.mov (.k (t 5))) fun x22_2 h => wV fs out (b + 3) noT h (.call 13 [(.k x20_0), (.k x21_1), (.k x22_2)]) fun x23_3 h => wS fs out b o3_5_1 (upd (upd (upd (upd t 20 x20_0) 21 x21_1) 22 x22_2) 23 x23_3) h R) := by kernel_rfl
def c3_5 : ACode := .region (o3_5.map (·.2)) [0, 1, 2, 3, 4, 5, 6, 7, 8, 9, 10] []
theorem s3_5 (h : wS fs out s.h.nx o3_5 s.t ⟨s.h.o, s.h.nx + 11⟩ (Q .normal)) : wC fs out c3_5 s Q := wC_region rfl rfl h
def o3_8_4 : List (Nat × AOper) := (15, ⟨some 42, .pick (.t 36) (.k (.v (.one (.bool true)))) (.t 41), none⟩) ::
   []
theorem h3_8_4 : wS fs out b o3_8_4 t h R = (wV fs out (b + 15) noT h (.pick (.k (t 36)) (.k (.v (.one (.bool true)))) (.k (t 41))) fun x42_0 h => R ⟨(upd t 42 x42_0), h⟩) := by kernel_rfl
def o3_8_3g : List (Nat × AOper) := (10, ⟨some 37, .mov (.t 7), none⟩) ::
   (11, ⟨some 38, .len (.t 37), none⟩) ::
   (12, ⟨some 39, .mov (.t 4), none⟩) ::
   (13, ⟨some 40, .len (.t 39), none⟩) ::
   (14, ⟨some 41, .bin .neq (.t 38) (.t 40), none⟩) ::
   []
theorem h3_8_3g : wS fs out b o3_8_3g t h R = (wV fs out (b + 10) noT h (.mov (.k (t 7))) fun x37_0 h => wV fs out (b + 11) noT h (.len (.k x37_0)) fun x38_1 h => wV fs out (b + 12) noT h (.mov (.k (t 4))) fun x39_2 h => wV fs out (b + 13) noT h (.len (.k x39_2)) fun x40_3 h => wV fs out (b + 14) noT h (.bin .neq (.k x38_1) (.k x40_3)) fun x41_4 h => R ⟨(upd (upd (upd (upd (upd t 37 x37_0) 38 x38_1) 39 x39_2) 40 x40_3) 41 x41_4), h⟩) := by kernel_rfl
def o3_8_3 : List (Nat × AOper) := grp 36 false o3_8_3g o3_8_4
theorem w3_8_3 : wS fs out b o3_8_3 t h R = onG (t 36) false (wS fs out b o3_8_3g (upd t 36 (.v (.one (.bool false)))) h fun s => wS fs out b o3_8_4 s.t s.h R) (wS fs out b o3_8_4 (upd (upd (upd (upd (upd (upd t 36 (.v (.one (.bool true)))) 37 (.tup [])) 38 (.tup [])) 39 (.tup [])) 40 (.tup [])) 41 (.tup [])) h R) (wS fs out b o3_8_4 (upd (upd (upd (upd (upd t 37 (.tup [])) 38 (.tup [])) 39 (.tup [])) 40 (.tup [])) 41 (.tup [])) h R) := wS_grpE rfl
def o3_8_2 : List (Nat × AOper) := (8, ⟨some 35, .pick (.t 29) (.k (.v (.one (.bool true)))) (.t 34), none⟩) ::
   (9, ⟨some 36, .mov (.t 35), none⟩) ::
   o3_8_3
theorem h3_8_2 : wS fs out b o3_8_2 t h R = (wV fs out (b + 8) noT h (.pick (.k (t 29)) (.k (.v (.one (.bool true)))) (.k (t 34))) fun x35_0 h => wV fs out (b + 9) noT h (.mov (.k x35_0)) fun x36_1 h => wS fs out b o3_8_3 (upd (upd t 35 x35_0) 36 x36_1) h R) := by kernel_rfl
def o3_8_1g : List (Nat × AOper) := (3, ⟨some 30, .mov (.t 6), none⟩) ::
   (4, ⟨some 31, .len (.t 30), none⟩) ::
   (5, ⟨some 32, .mov (.t 3), none⟩) ::
   (6, ⟨some 33, .len (.t 32), none⟩) ::
   (7, ⟨some 34, .bin .neq (.t 31) (.t 33), none⟩) ::
   []
theorem h3_8_1g : wS fs out b o3_8_1g t h R = (wV fs out (b + 3) noT h (.mov (.k (t 6))) fun x30_0 h => wV fs out (b + 4) noT h (.len (.k x30_0)) fun x31_1 h => wV fs out (b + 5) noT h (.mov (.k (t 3))) fun x32_2 h => wV fs out (b + 6) noT h (.len (.k x32_2)) fun x33_3 h => wV fs out (b + 7) noT h (.bin .neq (.k x31_1) (.k x33_3)) fun x34_4 h => R ⟨(upd (upd (upd (upd (upd t 30 x30_0) 31 x31_1) 32 x32_2) 33 x33_3) 34 x34_4), h⟩) := by kernel_rfl
def o3_8_1 : List (Nat × AOper) := grp 29 false o3_8_1g o3_8_2
theorem w3_8_1 : wS fs out b o3_8_1 t h R = onG (t 29) false (wS fs out b o3_8_1g (upd t 29 (.v (.one (.bool false)))) h fun s => wS fs out b o3_8_2 s.t s.h R) (wS fs out b o3_8_2 (upd (upd (upd (upd (upd (upd t 29 (.v (.one (.bool true)))) 30 (.tup [])) 31 (.tup [])) 32 (.tup [])) 33 (.tup [])) 34 (.tup [])) h R) (wS fs out b o3_8_2 (upd (upd (upd (upd (upd t 30 (.tup [])) 31 (.tup [])) 32 (.tup [])) 33 (.tup [])) 34 (.tup [])) h R) := wS_grpE rfl
def o3_8 : List (Nat × AOper) := (0, ⟨some 27, .mov (.t 8), none⟩) ::
   (1, ⟨some 28, .bin .neq (.t 27) (.k (.v (.one (.int .i64 0)))), none⟩) ::
   (2, ⟨some 29, .mov (.t 28), none⟩) ::
   o3_8_1
theorem h3_8 : wS fs out b o3_8 t h R = (wV fs out (b + 0) noT h (.mov (.k (t 8))) fun x27_0 h => wV fs out (b + 1) noT h (.bin .neq (.k x27_0) (.k (.v (.one (.int .i64 0))))) fun x28_1 h => wV fs out (b + 2) noT h (.mov (.k x28_1)) fun x29_2 h => wS fs out b o3_8_1 (upd (upd (upd t 27 x27_0) 28 x28_1) 29 x29_2) h R) := by kernel_rfl
def c3_8 : ACode := .region (o3_8.map (·.2)) [0, 1, 2, 3, 4, 5, 6, 7, 8, 9, 10, 11, 12, 13, 14, 15] []
theorem s3_8 (h : wS fs out s.h.nx o3_8 s.t ⟨s.h.o, s.h.nx + 16⟩ (Q .normal)) : wC fs out c3_8 s Q := wC_region rfl rfl h
def o3_11 : List (Nat × AOper) := (0, ⟨some 2, .mov (.k (.v (.one (.bool false)))), none⟩) ::
   []
theorem h3_11 : wS fs out b o3_11 t h R = (wV fs out (b + 0) noT h (.mov (.k (.v (.one (.bool false))))) fun x2_0 h => R ⟨(upd t 2 x2_0), h⟩) := by kernel_rfl
def c3_11 : ACode := .region (o3_11.map (·.2)) [0] []
theorem s3_11 (h : wS fs out s.h.nx o3_11 s.t ⟨s.h.o, s.h.nx + 1⟩ (Q .normal)) : wC fs out c3_11 s Q := wC_region rfl rfl h
def c3_10 : ACode := .seq c3_11 .ret
theorem s3_10 (h : wS fs out s.h.nx o3_11 s.t ⟨s.h.o, s.h.nx + 1⟩ fun s1 => wC fs out .ret s1 Q) : wC fs out c3_10 s Q := wC_seq (s3_11 h)
def c3_9 : ACode := .cond (.t 42) c3_10 .skip [2, 3, 4, 6, 7]
theorem s3_9 (h : onC (s.t 42) (wC fs out c3_10 s fun e s1 => Q e (keepOnly [2, 3, 4, 6, 7] s1)) (Q .normal (keepOnly [2, 3, 4, 6, 7] s))) : wC fs out c3_9 s Q := wC_condC (by first | exact h | (simp only [wC_skip, wC_exit, wC_ret]; exact h))
def c3_7 : ACode := .seq c3_8 c3_9
theorem s3_7 (h : wS fs out s.h.nx o3_8 s.t ⟨s.h.o, s.h.nx + 16⟩ fun s1 => wC fs out c3_9 s1 Q) : wC fs out c3_7 s Q := wC_seq (s3_8 h)
def o3_14 : List (Nat × AOper) := (0, ⟨some 43, .mov (.t 3), none⟩) ::
   (1, ⟨some 44, .len (.t 43), none⟩) ::
   (2, ⟨some 45, .mov (.k (.v (.one (.int .i64 0)))), none⟩) ::
   []
theorem h3_14 : wS fs out b o3_14 t h R = (wV fs out (b + 0) noT h (.mov (.k (t 3))) fun x43_0 h => wV fs out (b + 1) noT h (.len (.k x43_0)) fun x44_1 h => wV fs out (b + 2) noT h (.mov (.k (.v (.one (.int .i64 0))))) fun x45_2 h => R ⟨(upd (upd (upd t 43 x43_0) 44 x44_1) 45 x45_2), h⟩) := by kernel_rfl
def c3_14 : ACode := .region (o3_14.map (·.2)) [0, 1, 2] []
theorem s3_14 (h : wS fs out s.h.nx o3_14 s.t ⟨s.h.o, s.h.nx + 3⟩ (Q .normal)) : wC fs out c3_14 s Q := wC_region rfl rfl h
def o3_18 : List (Nat × AOper) := (0, ⟨some 46, .bin .lss (.t 45) (.t 44), none⟩) ::
   []
theorem h3_18 : wS fs out b o3_18 t h R = (wV fs out (b + 0) noT h (.bin .lss (.k (t 45)) (.k (t 44))) fun x46_0 h => R ⟨(upd t 46 x46_0), h⟩) := by kernel_rfl
def c3_18 : ACode := .region (o3_18.map (·.2)) [0] []
theorem s3_18 (h : wS fs out s.h.nx o3_18 s.t ⟨s.h.o, s.h.nx + 1⟩ (Q .normal)) : wC fs out c3_18 s Q := wC_region rfl rfl h
def c3_20 : ACode := .cond (.t 46) .skip (.exit 0) [3, 4, 6, 7, 44, 45]
theorem s3_20 (h : onC (s.t 46) (Q .normal (keepOnly [3, 4, 6, 7, 44, 45] s)) (Q (.exit 0) (keepOnly [3, 4, 6, 7, 44, 45] s))) : wC fs out c3_20 s Q := wC_condC (by first | exact h | (simp only [wC_skip, wC_exit, wC_ret]; exact h))
def o3_24 : List (Nat × AOper) := (0, ⟨some 47, .mov (.t 45), none⟩) ::
   (1, ⟨some 9, .mov (.t 47), none⟩) ::
   []
theorem h3_24 : wS fs out b o3_24 t h R = (wV fs out (b + 0) noT h (.mov (.k (t 45))) fun x47_0 h => wV fs out (b + 1) noT h (.mov (.k x47_0)) fun x9_1 h => R ⟨(upd (upd t 47 x47_0) 9 x9_1), h⟩) := by kernel_rfl
def c3_24 : ACode := .region (o3_24.map (·.2)) [0, 1] []
theorem s3_24 (h : wS fs out s.h.nx o3_24 s.t ⟨s.h.o, s.h.nx + 2⟩ (Q .normal)) : wC fs out c3_24 s Q := wC_region rfl rfl h
def o3_26_2 : List (Nat × AOper) := (16, ⟨some 64, .pick (.t 53) (.t 63) (.k (.v (.one (.bool false)))), none⟩) ::
   []
theorem h3_26_2 : wS fs out b o3_26_2 t h R = (wV fs out (b + 16) noT h (.pick (.k (t 53)) (.k (t 63)) (.k (.v (.one (.bool false))))) fun x64_0 h => R ⟨(upd t 64 x64_0), h⟩) := by kernel_rfl
def o3_26_1g : List (Nat × AOper) := (6, ⟨some 54, .mov (.t 6), none⟩) ::
   (7, ⟨some 55, .mov (.t 9), none⟩) ::
   (8, ⟨some 56, .iadr 1 (.t 54) (.t 55), none⟩) ::
   (9, ⟨some 57, .load none (.t 56), none⟩) ::
   (10, ⟨some 58, .mov (.t 3), none⟩) ::
   (11, ⟨some 59, .mov (.t 9), none⟩) ::
   (12, ⟨some 60, .iadr 2 (.t 58) (.t 59), none⟩) ::
   (13, ⟨some 61, .fadr 0 (.t 60), none⟩) ::
   (14, ⟨some 62, .load none (.t 61), none⟩) ::
   (15, ⟨some 63, .bin .lss (.t 57) (.t 62), none⟩) ::
   []
theorem h3_26_1g : wS fs out b o3_26_1g t h R = (wV fs out (b + 6) noT h (.mov (.k (t 6))) fun x54_0 h => wV fs out (b + 7) noT h (.mov (.k (t 9))) fun x55_1 h => wV fs out (b + 8) noT h (.iadr 1 (.k x54_0) (.k x55_1)) fun x56_2 h => wV fs out (b + 9) noT h (.load none (.k x56_2)) fun x57_3 h => wV fs out (b + 10) noT h (.mov (.k (t 3))) fun x58_4 h => wV fs out (b + 11) noT h (.mov (.k (t 9))) fun x59_5 h => wV fs out (b + 12) noT h (.iadr 2 (.k x58_4) (.k x59_5)) fun x60_6 h => wV fs out (b + 13) noT h (.fadr 0 (.k x60_6)) fun x61_7 h => wV fs out (b + 14) noT h (.load none (.k x61_7)) fun x62_8 h => wV fs out (b + 15) noT h (.bin .lss (.k x57_3) (.k x62_8)) fun x63_9 h => R ⟨(upd (upd (upd (upd (upd (upd (upd (upd (upd (upd t 54 x54_0) 55 x55_1) 56 x56_2) 57 x57_3) 58 x58_4) 59 x59_5) 60 x60_6) 61 x61_7) 62 x62_8) 63 x63_9), h⟩) := by kernel_rfl
def o3_26_1 : List (Nat × AOper) := grp 53 true o3_26_1g o3_26_2
theorem w3_26_1 : wS fs out b o3_26_1 t h R = onG (t 53) true (wS fs out b o3_26_1g (upd t 53 (.v (.one (.bool true)))) h fun s => wS fs out b o3_26_2 s.t s.h R) (wS fs out b o3_26_2 (upd (upd (upd (upd (upd (upd (upd (upd (upd (upd (upd t 53 (.v (.one (.bool false)))) 54 (.tup [])) 55 (.tup [])) 56 (.tup [])) 57 (.tup [])) 58 (.tup [])) 59 (.tup [])) 60 (.tup [])) 61 (.tup [])) 62 (.tup [])) 63 (.tup [])) h R) (wS fs out b o3_26_2 (upd (upd (upd (upd (upd (upd (upd (upd (upd (upd t 54 (.tup [])) 55 (.tup [])) 56 (.tup [])) 57 (.tup [])) 58 (.tup [])) 59 (.tup [])) 60 (.tup [])) 61 (.tup [])) 62 (.tup [])) 63 (.tup [])) h R) := wS_grpE rfl
def o3_26 : List (Nat × AOper) := (0, ⟨some 48, .mov (.t 3), none⟩) ::
   (1, ⟨some 49, .mov (.t 9), none⟩) ::
   (2, ⟨some 50, .iadr 2 (.t 48) (.t 49), none⟩) ::
   (3, ⟨some 51, .fadr 1 (.t 50), none⟩) ::
   (4, ⟨some 52, .load none (.t 51), none⟩) ::
   (5, ⟨some 53, .mov (.t 52), none⟩) ::
   o3_26_1
theorem h3_26 : wS fs out b o3_26 t h R = (wV fs out (b + 0) noT h (.mov (.k (t 3))) fun x48_0 h => wV fs out (b + 1) noT h (.mov (.k (t 9))) fun x49_1 h => wV fs out (b + 2) noT h (.iadr 2 (.k x48_0) (.k x49_1)) fun x50_2 h => wV fs out (b + 3) noT h (.fadr 1 (.k x50_2)) fun x51_3 h => wV fs out (b + 4) noT h (.load none (.k x51_3)) fun x52_4 h => wV fs out (b + 5) noT h (.mov (.k x52_4)) fun x53_5 h => wS fs out b o3_26_1 (upd (upd (upd (upd (upd (upd t 48 x48_0) 49 x49_1) 50 x50_2) 51 x51_3) 52 x52_4) 53 x53_5) h R) := by kernel_rfl
def c3_26 : ACode := .region (o3_26.map (·.2)) [0, 1, 2, 3, 4, 5, 6, 7, 8, 9, 10, 11, 12, 13, 14, 15, 16] []
theorem s3_26 (h : wS fs out s.h.nx o3_26 s.t ⟨s.h.o, s.h.nx + 17⟩ (Q .normal)) : wC fs out c3_26 s Q := wC_region rfl rfl h
def o3_29 : List (Nat × AOper) := (0, ⟨some 2, .mov (.k (.v (.one (.bool false)))), none⟩) ::
   []
theorem h3_29 : wS fs out b o3_29 t h R = (wV fs out (b + 0) noT h (.mov (.k (.v (.one (.bool false))))) fun x2_0 h => R ⟨(upd t 2 x2_0), h⟩) := by kernel_rfl
def c3_29 : ACode := .region (o3_29.map (·.2)) [0] []
theorem s3_29 (h : wS fs out s.h.nx o3_29 s.t ⟨s.h.o, s.h.nx + 1⟩ (Q .normal)) : wC fs out c3_29 s Q := wC_region rfl rfl h
def c3_28 : ACode := .seq c3_29 .ret
theorem s3_28 (h : wS fs out s.h.nx o3_29 s.t ⟨s.h.o, s.h.nx + 1⟩ fun s1 => wC fs out .ret s1 Q) : wC fs out c3_28 s Q := wC_seq (s3_29 h)
def c3_27 : ACode := .cond (.t 64) c3_28 .skip [2, 3, 4, 6, 7, 44, 45]
theorem s3_27 (h : onC (s.t 64) (wC fs out c3_28 s fun e s1 => Q e (keepOnly [2, 3, 4, 6, 7, 44, 45] s1)) (Q .normal (keepOnly [2, 3, 4, 6, 7, 44, 45] s))) : wC fs out c3_27 s Q := wC_condC (by first | exact h | (simp only [wC_skip, wC_exit, wC_ret]; exact h))
def c3_25 : ACode := .seq c3_26 c3_27
theorem s3_25 (h : wS fs out s.h.nx o3_26 s.t ⟨s.h.o, s.h.nx + 17⟩ fun s1 => wC fs out c3_27 s1 Q) : wC fs out c3_25 s Q := wC_seq (s3_26 h)
def c3_23 : ACode := .seq c3_24 c3_25
theorem s3_23 (h : wS fs out s.h.nx o3_24 s.t ⟨s.h.o, s.h.nx + 2⟩ fun s1 => wC fs out c3_25 s1 Q) : wC fs out c3_23 s Q := wC_seq (s3_24 h)
def c3_22 : ACode := .block 1 c3_23
theorem s3_22 (h : wC fs out c3_23 s fun e s1 => Q (if e = .exit 1 then .normal else e) s1) : wC fs out c3_22 s Q := wC_block h
def o3_30 : List (Nat × AOper) := (0, ⟨some 65, .bin .add (.t 45) (.k (.v (.one (.int .i64 1)))), none⟩) ::
   (1, ⟨some 45, .mov (.t 65), none⟩) ::
   []
theorem h3_30 : wS fs out b o3_30 t h R = (wV fs out (b + 0) noT h (.bin .add (.k (t 45)) (.k (.v (.one (.int .i64 1))))) fun x65_0 h => wV fs out (b + 1) noT h (.mov (.k x65_0)) fun x45_1 h => R ⟨(upd (upd t 65 x65_0) 45 x45_1), h⟩) := by kernel_rfl
def c3_30 : ACode := .region (o3_30.map (·.2)) [0, 1] []
theorem s3_30 (h : wS fs out s.h.nx o3_30 s.t ⟨s.h.o, s.h.nx + 2⟩ (Q .normal)) : wC fs out c3_30 s Q := wC_region rfl rfl h
def c3_21 : ACode := .seq c3_22 c3_30
theorem s3_21 (h : wC fs out c3_22 s fun e s1 => match e with | .normal => wC fs out c3_30 s1 Q | e => Q e s1) : wC fs out c3_21 s Q := wC_seq h
def c3_19 : ACode := .seq c3_20 c3_21
theorem s3_19 (h : onC (s.t 46) (wC fs out c3_21 (keepOnly [3, 4, 6, 7, 44, 45] s) Q) (Q (.exit 0) (keepOnly [3, 4, 6, 7, 44, 45] s))) : wC fs out c3_19 s Q := wC_seq (s3_20 h)
def c3_17 : ACode := .seq c3_18 c3_19
theorem s3_17 (h : wS fs out s.h.nx o3_18 s.t ⟨s.h.o, s.h.nx + 1⟩ fun s1 => wC fs out c3_19 s1 Q) : wC fs out c3_17 s Q := wC_seq (s3_18 h)
def c3_16 : ACode := .loop [3, 4, 6, 7, 44, 45] c3_17
theorem s3_16 (I : Nat → St → Prop) (n : Nat) (h0 : I n (keepOnly [3, 4, 6, 7, 44, 45] s)) (step : ∀ m s (Q' : AExit → St → Prop), I m s → (∀ m' s1, m' < m → I m' (keepOnly [3, 4, 6, 7, 44, 45] s1) → Q' .normal s1) → (∀ i s1, Q (.exit i) s1 → Q' (.exit i) s1) → (∀ s1, Q .ret s1 → Q' .ret s1) → wC fs out c3_17 s Q') : wC fs out c3_16 s Q := wC_loopQ I n h0 step
def c3_15 : ACode := .block 0 c3_16
theorem s3_15 (h : wC fs out c3_16 s fun e s1 => Q (if e = .exit 0 then .normal else e) s1) : wC fs out c3_15 s Q := wC_block h
def c3_13 : ACode := .seq c3_14 c3_15
theorem s3_13 (h : wS fs out s.h.nx o3_14 s.t ⟨s.h.o, s.h.nx + 3⟩ fun s1 => wC fs out c3_15 s1 Q) : wC fs out c3_13 s Q := wC_seq (s3_14 h)
def o3_33 : List (Nat × AOper) := (0, ⟨some 66, .mov (.t 4), none⟩) ::
   (1, ⟨some 67, .len (.t 66), none⟩) ::
   (2, ⟨some 68, .mov (.k (.v (.one (.int .i64 0)))), none⟩) ::
   []
theorem h3_33 : wS fs out b o3_33 t h R = (wV fs out (b + 0) noT h (.mov (.k (t 4))) fun x66_0 h => wV fs out (b + 1) noT h (.len (.k x66_0)) fun x67_1 h => wV fs out (b + 2) noT h (.mov (.k (.v (.one (.int .i64 0))))) fun x68_2 h => R ⟨(upd (upd (upd t 66 x66_0) 67 x67_1) 68 x68_2), h⟩) := by kernel_rfl
def c3_33 : ACode := .region (o3_33.map (·.2)) [0, 1, 2] []
theorem s3_33 (h : wS fs out s.h.nx o3_33 s.t ⟨s.h.o, s.h.nx + 3⟩ (Q .normal)) : wC fs out c3_33 s Q := wC_region rfl rfl h
def o3_37 : List (Nat × AOper) := (0, ⟨some 69, .bin .lss (.t 68) (.t 67), none⟩) ::
   []
theorem h3_37 : wS fs out b o3_37 t h R = (wV fs out (b + 0) noT h (.bin .lss (.k (t 68)) (.k (t 67))) fun x69_0 h => R ⟨(upd t 69 x69_0), h⟩) := by kernel_rfl
def c3_37 : ACode := .region (o3_37.map (·.2)) [0] []
theorem s3_37 (h : wS fs out s.h.nx o3_37 s.t ⟨s.h.o, s.h.nx + 1⟩ (Q .normal)) : wC fs out c3_37 s Q := wC_region rfl rfl h
def c3_39 : ACode := .cond (.t 69) .skip (.exit 2) [3, 6, 7, 66, 67, 68]
theorem s3_39 (h : onC (s.t 69) (Q .normal (keepOnly [3, 6, 7, 66, 67, 68] s)) (Q (.exit 2) (keepOnly [3, 6, 7, 66, 67, 68] s))) : wC fs out c3_39 s Q := wC_condC (by first | exact h | (simp only [wC_skip, wC_exit, wC_ret]; exact h))
def o3_43 : List (Nat × AOper) := (0, ⟨some 70, .mov (.t 68), none⟩) ::
   (1, ⟨some 71, .iadr 4 (.t 66) (.t 68), none⟩) ::
   (2, ⟨some 72, .load (some 4) (.t 71), none⟩) ::
   (3, ⟨some 11, .new 35 [(.int .i64 0), (.int .i64 0), (.int .i64 0), (.int .i64 0)], none⟩) ::
   (4, ⟨some 10, .mov (.t 70), none⟩) ::
   (5, ⟨none, .store 4 (.t 11) (.t 72), none⟩) ::
   []
theorem h3_43 : wS fs out b o3_43 t h R = (wV fs out (b + 0) noT h (.mov (.k (t 68))) fun x70_0 h => wV fs out (b + 1) noT h (.iadr 4 (.k (t 66)) (.k (t 68))) fun x71_1 h => wV fs out (b + 2) noT h (.load (some 4) (.k x71_1)) fun x72_2 h => wV fs out (b + 3) noT h (.new 35 [(.int .i64 0), (.int .i64 0), (.int .i64 0), (.int .i64 0)]) fun x11_3 h => wV fs out (b + 4) noT h (.mov (.k x70_0)) fun x10_4 h => wV fs out (b + 5) noT h (.store 4 (.k x11_3) (.k x72_2)) fun _ h => R ⟨(upd (upd (upd (upd (upd t 70 x70_0) 71 x71_1) 72 x72_2) 11 x11_3) 10 x10_4), h⟩) := by kernel_rfl
def c3_43 : ACode := .region (o3_43.map (·.2)) [0, 1, 2, 3, 4, 5] []
theorem s3_43 (h : wS fs out s.h.nx o3_43 s.t ⟨s.h.o, s.h.nx + 6⟩ (Q .normal)) : wC fs out c3_43 s Q := wC_region rfl rfl h
def o3_45_1 : List (Nat × AOper) := (10, ⟨some 83, .load none (.t 82), none⟩) ::
   (11, ⟨some 84, .iadr 2 (.t 81) (.t 83), none⟩) ::
   (12, ⟨some 85, .fadr 0 (.t 84), none⟩) ::
   (13, ⟨some 86, .load none (.t 85), none⟩) ::
   (14, ⟨some 87, .bin .sub (.t 80) (.t 86), none⟩) ::
   (15, ⟨some 12, .mov (.t 87), none⟩) ::
   []
theorem h3_45_1 : wS fs out b o3_45_1 t h R = (wV fs out (b + 10) noT h (.load none (.k (t 82))) fun x83_0 h => wV fs out (b + 11) noT h (.iadr 2 (.k (t 81)) (.k x83_0)) fun x84_1 h => wV fs out (b + 12) noT h (.fadr 0 (.k x84_1)) fun x85_2 h => wV fs out (b + 13) noT h (.load none (.k x85_2)) fun x86_3 h => wV fs out (b + 14) noT h (.bin .sub (.k (t 80)) (.k x86_3)) fun x87_4 h => wV fs out (b + 15) noT h (.mov (.k x87_4)) fun x12_5 h => R ⟨(upd (upd (upd (upd (upd (upd t 83 x83_0) 84 x84_1) 85 x85_2) 86 x86_3) 87 x87_4) 12 x12_5), h⟩) := by kernel_rfl
def o3_45 : List (Nat × AOper) := (0, ⟨some 73, .mov (.t 6), none⟩) ::
   (1, ⟨some 74, .fadr 0 (.t 11), none⟩) ::
   (2, ⟨some 75, .load none (.t 74), none⟩) ::
   (3, ⟨some 76, .iadr 1 (.t 73) (.t 75), none⟩) ::
   (4, ⟨some 77, .load none (.t 76), none⟩) ::
   (5, ⟨some 78, .fadr 2 (.t 11), none⟩) ::
   (6, ⟨some 79, .load none (.t 78), none⟩) ::
   (7, ⟨some 80, .bin .add (.t 77) (.t 79), none⟩) ::
   (8, ⟨some 81, .mov (.t 3), none⟩) ::
   (9, ⟨some 82, .fadr 1 (.t 11), none⟩) ::
   o3_45_1
theorem h3_45 : wS fs out b o3_45 t h R = (wV fs out (b + 0) noT h (.mov (.k (t 6))) fun x73_0 h => wV fs out (b + 1) noT h (.fadr 0 (.k (t 11))) fun x74_1 h => wV fs out (b + 2) noT h (.load none (.k x74_1)) fun x75_2 h => wV fs out (b + 3) noT h (.iadr 1 (.k x73_0) (.k x75_2)) fun x76_3 h => wV fs out (b + 4) noT h (.load none (.k x76_3)) fun x77_4 h => wV fs out (b + 5) noT h (.fadr 2 (.k (t 11))) fun x78_5 h => wV fs out (b + 6) noT h (.load none (.k x78_5)) fun x79_6 h => wV fs out (b + 7) noT h (.bin .add (.k x77_4) (.k x79_6)) fun x80_7 h => wV fs out (b + 8) noT h (.mov (.k (t 3))) fun x81_8 h => wV fs out (b + 9) noT h (.fadr 1 (.k (t 11))) fun x82_9 h => wS fs out b o3_45_1 (upd (upd (upd (upd (upd (upd (upd (upd (upd (upd t 73 x73_0) 74 x74_1) 75 x75_2) 76 x76_3) 77 x77_4) 78 x78_5) 79 x79_6) 80 x80_7) 81 x81_8) 82 x82_9) h R) := by kernel_rfl
def c3_45 : ACode := .region (o3_45.map (·.2)) [0, 1, 2, 3, 4, 5, 6, 7, 8, 9, 10, 11, 12, 13, 14, 15] []
theorem s3_45 (h : wS fs out s.h.nx o3_45 s.t ⟨s.h.o, s.h.nx + 16⟩ (Q .normal)) : wC fs out c3_45 s Q := wC_region rfl rfl h
def o3_47_6 : List (Nat × AOper) := (35, ⟨some 123, .pick (.t 108) (.k (.v (.one (.bool true)))) (.t 122), none⟩) ::
   []
theorem h3_47_6 : wS fs out b o3_47_6 t h R = (wV fs out (b + 35) noT h (.pick (.k (t 108)) (.k (.v (.one (.bool true)))) (.k (t 122))) fun x123_0 h => R ⟨(upd t 123 x123_0), h⟩) := by kernel_rfl
def o3_47_5g : List (Nat × AOper) := (33, ⟨some 121, .pick (.t 116) (.k (.v (.one (.bool true)))) (.t 120), none⟩) ::
   (34, ⟨some 122, .eqb true (.t 112) (.t 121), none⟩) ::
   []
theorem h3_47_5g : wS fs out b o3_47_5g t h R = (wV fs out (b + 33) noT h (.pick (.k (t 116)) (.k (.v (.one (.bool true)))) (.k (t 120))) fun x121_0 h => wV fs out (b + 34) noT h (.eqb true (.k (t 112)) (.k x121_0)) fun x122_1 h => R ⟨(upd (upd t 121 x121_0) 122 x122_1), h⟩) := by kernel_rfl
def o3_47_5 : List (Nat × AOper) := grp 108 false o3_47_5g o3_47_6
theorem w3_47_5 : wS fs out b o3_47_5 t h R = onG (t 108) false (wS fs out b o3_47_5g (upd t 108 (.v (.one (.bool false)))) h fun s => wS fs out b o3_47_6 s.t s.h R) (wS fs out b o3_47_6 (upd (upd (upd t 108 (.v (.one (.bool true)))) 121 (.tup [])) 122 (.tup [])) h R) (wS fs out b o3_47_6 (upd (upd t 121 (.tup [])) 122 (.tup [])) h R) := wS_grpE rfl
def o3_47_4g : List (Nat × AOper) := (29, ⟨some 117, .mov (.t 12), none⟩) ::
   (30, ⟨some 118, .fadr 3 (.t 11), none⟩) ::
   (31, ⟨some 119, .load none (.t 118), none⟩) ::
   (32, ⟨some 120, .bin .leq (.t 117) (.t 119), none⟩) ::
   []
theorem h3_47_4g : wS fs out b o3_47_4g t h R = (wV fs out (b + 29) noT h (.mov (.k (t 12))) fun x117_0 h => wV fs out (b + 30) noT h (.fadr 3 (.k (t 11))) fun x118_1 h => wV fs out (b + 31) noT h (.load none (.k x118_1)) fun x119_2 h => wV fs out (b + 32) noT h (.bin .leq (.k x117_0) (.k x119_2)) fun x120_3 h => R ⟨(upd (upd (upd (upd t 117 x117_0) 118 x118_1) 119 x119_2) 120 x120_3), h⟩) := by kernel_rfl
def o3_47_4 : List (Nat × AOper) := grp 116 false o3_47_4g o3_47_5
theorem w3_47_4 : wS fs out b o3_47_4 t h R = onG (t 116) false (wS fs out b o3_47_4g (upd t 116 (.v (.one (.bool false)))) h fun s => wS fs out b o3_47_5 s.t s.h R) (wS fs out b o3_47_5 (upd (upd (upd (upd (upd t 116 (.v (.one (.bool true)))) 117 (.tup [])) 118 (.tup [])) 119 (.tup [])) 120 (.tup [])) h R) (wS fs out b o3_47_5 (upd (upd (upd (upd t 117 (.tup [])) 118 (.tup [])) 119 (.tup [])) 120 (.tup [])) h R) := wS_grpE rfl
def o3_47_3g : List (Nat × AOper) := (21, ⟨some 109, .mov (.t 7), none⟩) ::
   (22, ⟨some 110, .mov (.t 10), none⟩) ::
   (23, ⟨some 111, .iadr 1 (.t 109) (.t 110), none⟩) ::
   (24, ⟨some 112, .load none (.t 111), none⟩) ::
   (25, ⟨some 113, .fadr 3 (.t 11), none⟩) ::
   (26, ⟨some 114, .load none (.t 113), none⟩) ::
   (27, ⟨some 115, .bin .eql (.t 114) (.k (.v (.one (.int .i64 (-1))))), none⟩) ::
   (28, ⟨some 116, .mov (.t 115), none⟩) ::
   []
theorem h3_47_3g : wS fs out b o3_47_3g t h R = (wV fs out (b + 21) noT h (.mov (.k (t 7))) fun x109_0 h => wV fs out (b + 22) noT h (.mov (.k (t 10))) fun x110_1 h => wV fs out (b + 23) noT h (.iadr 1 (.k x109_0) (.k x110_1)) fun x111_2 h => wV fs out (b + 24) noT h (.load none (.k x111_2)) fun x112_3 h => wV fs out (b + 25) noT h (.fadr 3 (.k (t 11))) fun x113_4 h => wV fs out (b + 26) noT h (.load none (.k x113_4)) fun x114_5 h => wV fs out (b + 27) noT h (.bin .eql (.k x114_5) (.k (.v (.one (.int .i64 (-1)))))) fun x115_6 h => wV fs out (b + 28) noT h (.mov (.k x115_6)) fun x116_7 h => R ⟨(upd (upd (upd (upd (upd (upd (upd (upd t 109 x109_0) 110 x110_1) 111 x111_2) 112 x112_3) 113 x113_4) 114 x114_5) 115 x115_6) 116 x116_7), h⟩) := by kernel_rfl
def o3_47_3 : List (Nat × AOper) := grp 108 false o3_47_3g o3_47_4
theorem w3_47_3 : wS fs out b o3_47_3 t h R = onG (t 108) false (wS fs out b o3_47_3g (upd t 108 (.v (.one (.bool false)))) h fun s => wS fs out b o3_47_4 s.t s.h R) (wS fs out b o3_47_4 (upd (upd (upd (upd (upd (upd (upd (upd (upd t 108 (.v (.one (.bool true)))) 109 (.tup [])) 110 (.tup [])) 111 (.tup [])) 112 (.tup [])) 113 (.tup [])) 114 (.tup [])) 115 (.tup [])) 116 (.tup [])) h R) (wS fs out b o3_47_4 (upd (upd (upd (upd (upd (upd (upd (upd t 109 (.tup [])) 110 (.tup [])) 111 (.tup [])) 112 (.tup [])) 113 (.tup [])) 114 (.tup [])) 115 (.tup [])) 116 (.tup [])) h R) := wS_grpE rfl
def o3_47_2 : List (Nat × AOper) := (19, ⟨some 107, .pick (.t 92) (.t 106) (.k (.v (.one (.bool false)))), none⟩) ::
   (20, ⟨some 108, .mov (.t 107), none⟩) ::
   o3_47_3
theorem h3_47_2 : wS fs out b o3_47_2 t h R = (wV fs out (b + 19) noT h (.pick (.k (t 92)) (.k (t 106)) (.k (.v (.one (.bool false))))) fun x107_0 h => wV fs out (b + 20) noT h (.mov (.k x107_0)) fun x108_1 h => wS fs out b o3_47_3 (upd (upd t 107 x107_0) 108 x108_1) h R) := by kernel_rfl
def o3_47_1g_1 : List (Nat × AOper) := (15, ⟨some 103, .fadr 2 (.t 11), none⟩) ::
   (16, ⟨some 104, .load none (.t 103), none⟩) ::
   (17, ⟨some 105, .bin .add (.t 102) (.t 104), none⟩) ::
   (18, ⟨some 106, .bin .lss (.t 97) (.t 105), none⟩) ::
   []
theorem h3_47_1g_1 : wS fs out b o3_47_1g_1 t h R = (wV fs out (b + 15) noT h (.fadr 2 (.k (t 11))) fun x103_0 h => wV fs out (b + 16) noT h (.load none (.k x103_0)) fun x104_1 h => wV fs out (b + 17) noT h (.bin .add (.k (t 102)) (.k x104_1)) fun x105_2 h => wV fs out (b + 18) noT h (.bin .lss (.k (t 97)) (.k x105_2)) fun x106_3 h => R ⟨(upd (upd (upd (upd t 103 x103_0) 104 x104_1) 105 x105_2) 106 x106_3), h⟩) := by kernel_rfl
def o3_47_1g : List (Nat × AOper) := (5, ⟨some 93, .mov (.t 6), none⟩) ::
   (6, ⟨some 94, .fadr 1 (.t 11), none⟩) ::
   (7, ⟨some 95, .load none (.t 94), none⟩) ::
   (8, ⟨some 96, .iadr 1 (.t 93) (.t 95), none⟩) ::
   (9, ⟨some 97, .load none (.t 96), none⟩) ::
   (10, ⟨some 98, .mov (.t 6), none⟩) ::
   (11, ⟨some 99, .fadr 0 (.t 11), none⟩) ::
   (12, ⟨some 100, .load none (.t 99), none⟩) ::
   (13, ⟨some 101, .iadr 1 (.t 98) (.t 100), none⟩) ::
   (14, ⟨some 102, .load none (.t 101), none⟩) ::
   o3_47_1g_1
theorem h3_47_1g : wS fs out b o3_47_1g t h R = (wV fs out (b + 5) noT h (.mov (.k (t 6))) fun x93_0 h => wV fs out (b + 6) noT h (.fadr 1 (.k (t 11))) fun x94_1 h => wV fs out (b + 7) noT h (.load none (.k x94_1)) fun x95_2 h => wV fs out (b + 8) noT h (.iadr 1 (.k x93_0) (.k x95_2)) fun x96_3 h => wV fs out (b + 9) noT h (.load none (.k x96_3)) fun x97_4 h => wV fs out (b + 10) noT h (.mov (.k (t 6))) fun x98_5 h => wV fs out (b + 11) noT h (.fadr 0 (.k (t 11))) fun x99_6 h => wV fs out (b + 12) noT h (.load none (.k x99_6)) fun x100_7 h => wV fs out (b + 13) noT h (.iadr 1 (.k x98_5) (.k x100_7)) fun x101_8 h => wV fs out (b + 14) noT h (.load none (.k x101_8)) fun x102_9 h => wS fs out b o3_47_1g_1 (upd (upd (upd (upd (upd (upd (upd (upd (upd (upd t 93 x93_0) 94 x94_1) 95 x95_2) 96 x96_3) 97 x97_4) 98 x98_5) 99 x99_6) 100 x100_7) 101 x101_8) 102 x102_9) h R) := by kernel_rfl
def o3_47_1 : List (Nat × AOper) := grp 92 true o3_47_1g o3_47_2
theorem w3_47_1 : wS fs out b o3_47_1 t h R = onG (t 92) true (wS fs out b o3_47_1g (upd t 92 (.v (.one (.bool true)))) h fun s => wS fs out b o3_47_2 s.t s.h R) (wS fs out b o3_47_2 (upd (upd (upd (upd (upd (upd (upd (upd (upd (upd (upd (upd (upd (upd (upd t 92 (.v (.one (.bool false)))) 93 (.tup [])) 94 (.tup [])) 95 (.tup [])) 96 (.tup [])) 97 (.tup [])) 98 (.tup [])) 99 (.tup [])) 100 (.tup [])) 101 (.tup [])) 102 (.tup [])) 103 (.tup [])) 104 (.tup [])) 105 (.tup [])) 106 (.tup [])) h R) (wS fs out b o3_47_2 (upd (upd (upd (upd (upd (upd (upd (upd (upd (upd (upd (upd (upd (upd t 93 (.tup [])) 94 (.tup [])) 95 (.tup [])) 96 (.tup [])) 97 (.tup [])) 98 (.tup [])) 99 (.tup [])) 100 (.tup [])) 101 (.tup [])) 102 (.tup [])) 103 (.tup [])) 104 (.tup [])) 105 (.tup [])) 106 (.tup [])) h R) := wS_grpE rfl
def o3_47 : List (Nat × AOper) := (0, ⟨some 88, .mov (.t 7), none⟩) ::
   (1, ⟨some 89, .mov (.t 10), none⟩) ::
   (2, ⟨some 90, .iadr 1 (.t 88) (.t 89), none⟩) ::
   (3, ⟨some 91, .load none (.t 90), none⟩) ::
   (4, ⟨some 92, .mov (.t 91), none⟩) ::
   o3_47_1
theorem h3_47 : wS fs out b o3_47 t h R = (wV fs out (b + 0) noT h (.mov (.k (t 7))) fun x88_0 h => wV fs out (b + 1) noT h (.mov (.k (t 10))) fun x89_1 h => wV fs out (b + 2) noT h (.iadr 1 (.k x88_0) (.k x89_1)) fun x90_2 h => wV fs out (b + 3) noT h (.load none (.k x90_2)) fun x91_3 h => wV fs out (b + 4) noT h (.mov (.k x91_3)) fun x92_4 h => wS fs out b o3_47_1 (upd (upd (upd (upd (upd t 88 x88_0) 89 x89_1) 90 x90_2) 91 x91_3) 92 x92_4) h R) := by kernel_rfl
def c3_47 : ACode := .region (o3_47.map (·.2)) [0, 1, 2, 3, 4, 5, 6, 7, 8, 9, 10, 11, 12, 13, 14, 15, 16, 17, 18, 19, 20, 21, 22, 23, 24, 25, 26, 27, 28, 29, 30, 31, 32, 33, 34, 35] []
theorem s3_47 (h : wS fs out s.h.nx o3_47 s.t ⟨s.h.o, s.h.nx + 36⟩ (Q .normal)) : wC fs out c3_47 s Q := wC_region rfl rfl h
def o3_50 : List (Nat × AOper) := (0, ⟨some 2, .mov (.k (.v (.one (.bool false)))), none⟩) ::
   []
theorem h3_50 : wS fs out b o3_50 t h R = (wV fs out (b + 0) noT h (.mov (.k (.v (.one (.bool false))))) fun x2_0 h => R ⟨(upd t 2 x2_0), h⟩) := by kernel_rfl
def c3_50 : ACode := .region (o3_50.map (·.2)) [0] []
theorem s3_50 (h : wS fs out s.h.nx o3_50 s.t ⟨s.h.o, s.h.nx + 1⟩ (Q .normal)) : wC fs out c3_50 s Q := wC_region rfl rfl h
def c3_49 : ACode := .seq c3_50 .ret
theorem s3_49 (h : wS fs out s.h.nx o3_50 s.t ⟨s.h.o, s.h.nx + 1⟩ fun s1 => wC fs out .ret s1 Q) : wC fs out c3_49 s Q := wC_seq (s3_50 h)
def c3_48 : ACode := .cond (.t 123) c3_49 .skip [2, 3, 6, 7, 66, 67, 68]
theorem s3_48 (h : onC (s.t 123) (wC fs out c3_49 s fun e s1 => Q e (keepOnly [2, 3, 6, 7, 66, 67, 68] s1)) (Q .normal (keepOnly [2, 3, 6, 7, 66, 67, 68] s))) : wC fs out c3_48 s Q := wC_condC (by first | exact h | (simp only [wC_skip, wC_exit, wC_ret]; exact h))
def c3_46 : ACode := .seq c3_47 c3_48
theorem s3_46 (h : wS fs out s.h.nx o3_47 s.t ⟨s.h.o, s.h.nx + 36⟩ fun s1 => wC fs out c3_48 s1 Q) : wC fs out c3_46 s Q := wC_seq (s3_47 h)
def c3_44 : ACode := .seq c3_45 c3_46
theorem s3_44 (h : wS fs out s.h.nx o3_45 s.t ⟨s.h.o, s.h.nx + 16⟩ fun s1 => wC fs out c3_46 s1 Q) : wC fs out c3_44 s Q := wC_seq (s3_45 h)
def c3_42 : ACode := .seq c3_43 c3_44
theorem s3_42 (h : wS fs out s.h.nx o3_43 s.t ⟨s.h.o, s.h.nx + 6⟩ fun s1 => wC fs out c3_44 s1 Q) : wC fs out c3_42 s Q := wC_seq (s3_43 h)
def c3_41 : ACode := .block 3 c3_42
theorem s3_41 (h : wC fs out c3_42 s fun e s1 => Q (if e = .exit 3 then .normal else e) s1) : wC fs out c3_41 s Q := wC_block h
def o3_51 : List (Nat × AOper) := (0, ⟨some 124, .bin .add (.t 68) (.k (.v (.one (.int .i64 1)))), none⟩) ::
   (1, ⟨some 68, .mov (.t 124), none⟩) ::
   []
theorem h3_51 : wS fs out b o3_51 t h R = (wV fs out (b + 0) noT h (.bin .add (.k (t 68)) (.k (.v (.one (.int .i64 1))))) fun x124_0 h => wV fs out (b + 1) noT h (.mov (.k x124_0)) fun x68_1 h => R ⟨(upd (upd t 124 x124_0) 68 x68_1), h⟩) := by kernel_rfl
def c3_51 : ACode := .region (o3_51.map (·.2)) [0, 1] []
theorem s3_51 (h : wS fs out s.h.nx o3_51 s.t ⟨s.h.o, s.h.nx + 2⟩ (Q .normal)) : wC fs out c3_51 s Q := wC_region rfl rfl h
def c3_40 : ACode := .seq c3_41 c3_51
theorem s3_40 (h : wC fs out c3_41 s fun e s1 => match e with | .normal => wC fs out c3_51 s1 Q | e => Q e s1) : wC fs out c3_40 s Q := wC_seq h
def c3_38 : ACode := .seq c3_39 c3_40
theorem s3_38 (h : onC (s.t 69) (wC fs out c3_40 (keepOnly [3, 6, 7, 66, 67, 68] s) Q) (Q (.exit 2) (keepOnly [3, 6, 7, 66, 67, 68] s))) : wC fs out c3_38 s Q := wC_seq (s3_39 h)
def c3_36 : ACode := .seq c3_37 c3_38
theorem s3_36 (h : wS fs out s.h.nx o3_37 s.t ⟨s.h.o, s.h.nx + 1⟩ fun s1 => wC fs out c3_38 s1 Q) : wC fs out c3_36 s Q := wC_seq (s3_37 h)
def c3_35 : ACode := .loop [3, 6, 7, 66, 67, 68] c3_36
theorem s3_35 (I : Nat → St → Prop) (n : Nat) (h0 : I n (keepOnly [3, 6, 7, 66, 67, 68] s)) (step : ∀ m s (Q' : AExit → St → Prop), I m s → (∀ m' s1, m' < m → I m' (keepOnly [3, 6, 7, 66, 67, 68] s1) → Q' .normal s1) → (∀ i s1, Q (.exit i) s1 → Q' (.exit i) s1) → (∀ s1, Q .ret s1 → Q' .ret s1) → wC fs out c3_36 s Q') : wC fs out c3_35 s Q := wC_loopQ I n h0 step
def c3_34 : ACode := .block 2 c3_35
theorem s3_34 (h : wC fs out c3_35 s fun e s1 => Q (if e = .exit 2 then .normal else e) s1) : wC fs out c3_34 s Q := wC_block h
def c3_32 : ACode := .seq c3_33 c3_34
theorem s3_32 (h : wS fs out s.h.nx o3_33 s.t ⟨s.h.o, s.h.nx + 3⟩ fun s1 => wC fs out c3_34 s1 Q) : wC fs out c3_32 s Q := wC_seq (s3_33 h)
def o3_53_1 : List (Nat × AOper) := (1, ⟨some 2, .mov (.t 125), none⟩) ::
   []
theorem h3_53_1 : wS fs out b o3_53_1 t h R = (wV fs out (b + 1) noT h (.mov (.k (t 125))) fun x2_0 h => R ⟨(upd t 2 x2_0), h⟩) := by kernel_rfl
def o3_53 : List (Nat × AOper) := (0, ⟨some 125, .call 14 [], none⟩) ::
   o3_53_1
theorem h3_53 : wS fs out b o3_53 t h R = (wV fs out (b + 0) noT h (.call 14 []) fun x125_0 h => wS fs out b o3_53_1 (upd t 125 x125_0) h R) := by kernel_rfl
def c3_53 : ACode := .region (o3_53.map (·.2)) [0, 1] []
theorem s3_53 (h : wS fs out s.h.nx o3_53 s.t ⟨s.h.o, s.h.nx + 2⟩ (Q .normal)) : wC fs out c3_53 s Q := wC_region rfl rfl h
def c3_52 : ACode := .seq c3_53 .ret
theorem s3_52 (h : wS fs out s.h.nx o3_53 s.t ⟨s.h.o, s.h.nx + 2⟩ fun s1 => wC fs out .ret s1 Q) : wC fs out c3_52 s Q := wC_seq (s3_53 h)
def c3_31 : ACode := .seq c3_32 c3_52
theorem s3_31 (h : wC fs out c3_32 s fun e s1 => match e with | .normal => wC fs out c3_52 s1 Q | e => Q e s1) : wC fs out c3_31 s Q := wC_seq h
def c3_12 : ACode := .seq c3_13 c3_31
theorem s3_12 (h : wC fs out c3_13 s fun e s1 => match e with | .normal => wC fs out c3_31 s1 Q | e => Q e s1) : wC fs out c3_12 s Q := wC_seq h
def c3_6 : ACode := .seq c3_7 c3_12
theorem s3_6 (h : wC fs out c3_7 s fun e s1 => match e with | .normal => wC fs out c3_12 s1 Q | e => Q e s1) : wC fs out c3_6 s Q := wC_seq h
def c3_4 : ACode := .seq c3_5 c3_6
theorem s3_4 (h : wS fs out s.h.nx o3_5 s.t ⟨s.h.o, s.h.nx + 11⟩ fun s1 => wC fs out c3_6 s1 Q) : wC fs out c3_4 s Q := wC_seq (s3_5 h)
def c3_2 : ACode := .seq c3_3 c3_4
theorem s3_2 (h : wS fs out s.h.nx o3_3 s.t ⟨s.h.o, s.h.nx + 9⟩ fun s1 => wC fs out c3_4 s1 Q) : wC fs out c3_2 s Q := wC_seq (s3_3 h)
def c3_0 : ACode := .seq c3_1 c3_2
theorem s3_0 (h : wS fs out s.h.nx o3_1 s.t ⟨s.h.o, s.h.nx + 1⟩ fun s1 => wC fs out c3_2 s1 Q) : wC fs out c3_0 s Q := wC_seq (s3_1 h)
def a3 : AFunc := ⟨1, [2], none, c3_0⟩
theorem t3 : tell Try.prog Try.f3 [([2, 3, 4, 6, 7], [], []), ([3, 4, 6, 7, 44, 45], [], []), ([3, 4, 6, 7, 44, 45], [], []), ([0, 1, 2, 3, 4, 5, 6, 7, 8, 9, 10, 11, 12, 13, 14, 15, 16], [], [0, 0, 3, 7, 15, 31, 63, 63, 255, 511, 63, 63, 3135, 7231, 15423, 32767, 65535]), ([2, 3, 4, 6, 7, 44, 45], [], []), ([3, 6, 7, 66, 67, 68], [], []), ([3, 6, 7, 66, 67, 68], [], []), ([0, 1, 2, 3, 4, 5, 6, 7, 8, 9, 10, 11, 12, 13, 14, 15], [], [0, 0, 2, 7, 15, 0, 32, 127, 0, 0, 512, 1792, 3840, 7936, 16383, 32767]), ([0, 1, 2, 3, 4, 5, 6, 7, 8, 9, 10, 11, 12, 13, 14, 15, 16, 17, 18, 19, 20, 21, 22, 23, 24, 25, 26, 27, 28, 29, 30, 31, 32, 33, 34, 35], [], [0, 0, 3, 7, 15, 31, 31, 95, 255, 511, 31, 31, 2079, 7199, 15391, 31, 32799, 130079, 262143, 524287, 1048575, 2097151, 2097151, 8388607, 16777215, 2097151, 35651583, 102760447, 236978175, 505413631, 505413631, 1579155455, 4263510015, 8558477311, 17179869183, 34359738367]), ([2, 3, 6, 7, 66, 67, 68], [], [])] = some a3 := by kernel_rfl
theorem ok3 : FuncOk Try.prog 3 a3 := tell_ok Try.func3 t3

end
def fl3 (f : Nat) : Option AFunc := if f = 3 then some a3 else fs f
theorem fl3_ok : ∀ f fn, fl3 f = some fn → FuncOk Try.prog f fn := by
  intro f fn h
  unfold fl3 at h
  split at h
  · rename_i hf; subst hf; cases h; exact ok3
  · exact fs_ok f fn h
theorem fs3 : fl3 3 = some a3 := by simp [fl3]
theorem lift3 {f : Nat} {args : List T} {h : AH} {Q : T → AH → Prop} (hw : wF fs out f args h Q) : wF fl3 out f args h Q := by
  refine wF_ext (fun f fn hf => ?_) (fun f hf hf' args h => ?_) hw
  · unfold fl3; rw [if_neg (fun e => by subst e; cases hf)]; exact hf
  · unfold fl3 at hf'; split at hf'
    · rename_i e; subst e; cases args <;> rfl
    · exact absurd hf hf'
end Go.Proofs.Ythoicdnlcnppgaa.Fn
