/- Functions of the program, as the abstract machine's, and that they are. Conditions: none. -/
import Derived.Test.YthoicdnlcnppgaaAmCo
import Derived.Test.YthoicdnlcnppgaaAmEv
import Derived.Test.YthoicdnlcnppgaaProg
set_option linter.unusedVariables false
set_option linter.unusedSimpArgs false
namespace Go.Proofs.Ythoicdnlcnppgaa.Fn
open Go Go.Am
set_option maxRecDepth 100000
variable {fs : Nat → Option AFunc} {out : Rec} {s : St} {Q : AExit → St → Prop} {b : Nat} {t : Nat → T} {h : AH} {R : St → Prop}
/-- railplan/railplanref30.Cause -/
def o21_1 : List (Nat × AOper) := (0, ⟨some 8, .mov (.k (.v (.one .nils))), none⟩) ::
   (1, ⟨some 9, .mov (.k (.v (.one (.int .i64 0)))), none⟩) ::
   []
theorem h21_1 : wS fs out b o21_1 t h R = (wV fs out (b + 0) noT h (.mov (.k (.v (.one .nils)))) fun x8_0 h => wV fs out (b + 1) noT h (.mov (.k (.v (.one (.int .i64 0))))) fun x9_1 h => R ⟨(upd (upd t 8 x8_0) 9 x9_1), h⟩) := by kernel_rfl
def c21_1 : ACode := .region (o21_1.map (·.2)) [0, 1] []
theorem s21_1 (h : wS fs out s.h.nx o21_1 s.t ⟨s.h.o, s.h.nx + 2⟩ (Q .normal)) : wC fs out c21_1 s Q := wC_region rfl rfl h
def o21_3_1 : List (Nat × AOper) := (4, ⟨some 18, .mov (.t 22), none⟩) ::
   (5, ⟨some 23, .ext 0 (.t 18), none⟩) ::
   (6, ⟨some 24, .ext 1 (.t 18), none⟩) ::
   (7, ⟨some 25, .ext 2 (.t 18), none⟩) ::
   (8, ⟨some 10, .mov (.t 23), none⟩) ::
   (9, ⟨some 11, .mov (.t 24), none⟩) ::
   (10, ⟨some 12, .mov (.t 25), none⟩) ::
   []
theorem h21_3_1 : wS fs out b o21_3_1 t h R = (wV fs out (b + 4) noT h (.mov (.k (t 22))) fun x18_0 h => wV fs out (b + 5) noT h (.ext 0 (.k x18_0)) fun x23_1 h => wV fs out (b + 6) noT h (.ext 1 (.k x18_0)) fun x24_2 h => wV fs out (b + 7) noT h (.ext 2 (.k x18_0)) fun x25_3 h => wV fs out (b + 8) noT h (.mov (.k x23_1)) fun x10_4 h => wV fs out (b + 9) noT h (.mov (.k x24_2)) fun x11_5 h => wV fs out (b + 10) noT h (.mov (.k x25_3)) fun x12_6 h => R ⟨(upd (upd (upd (upd (upd (upd (upd t 18 x18_0) 23 x23_1) 24 x24_2) 25 x25_3) 10 x10_4) 11 x11_5) 12 x12_6), h⟩) := by kernel_rfl
def o21_3 : List (Nat × AOper) := (0, ⟨some 19, .mov (.t 0), none⟩) ::
   (1, ⟨some 20, .mov (.t 1), none⟩) ::
   (2, ⟨some 21, .mov (.t 2), none⟩) ::
   (3, ⟨some 22, .call 16 [(.t 19), (.t 20), (.t 21)], none⟩) ::
   o21_3_1
theorem h21_3 : wS fs out b o21_3 t h R = (wV fs out (b + 0) noT h (.mov (.k (t 0))) fun x19_0 h => wV fs out (b + 1) noT h (.mov (.k (t 1))) fun x20_1 h => wV fs out (b + 2) noT h (.mov (.k (t 2))) fun x21_2 h => wV fs out (b + 3) noT h (.call 16 [(.k x19_0), (.k x20_1), (.k x21_2)]) fun x22_3 h => wS fs out b o21_3_1 (upd (upd (upd (upd t 19 x19_0) 20 x20_1) 21 x21_2) 22 x22_3) h R) := by kernel_rfl
def c21_3 : ACode := .region (o21_3.map (·.2)) [0, 1, 2, 3, 4, 5, 6, 7, 8, 9, 10] []
theorem s21_3 (h : wS fs out s.h.nx o21_3 s.t ⟨s.h.o, s.h.nx + 11⟩ (Q .normal)) : wC fs out c21_3 s Q := wC_region rfl rfl h
def o21_6 : List (Nat × AOper) := (0, ⟨some 26, .mov (.t 12), none⟩) ::
   (1, ⟨some 27, .bin .neq (.t 26) (.k (.v (.one (.int .i64 0)))), none⟩) ::
   []
theorem h21_6 : wS fs out b o21_6 t h R = (wV fs out (b + 0) noT h (.mov (.k (t 12))) fun x26_0 h => wV fs out (b + 1) noT h (.bin .neq (.k x26_0) (.k (.v (.one (.int .i64 0))))) fun x27_1 h => R ⟨(upd (upd t 26 x26_0) 27 x27_1), h⟩) := by kernel_rfl
def c21_6 : ACode := .region (o21_6.map (·.2)) [0, 1] []
theorem s21_6 (h : wS fs out s.h.nx o21_6 s.t ⟨s.h.o, s.h.nx + 2⟩ (Q .normal)) : wC fs out c21_6 s Q := wC_region rfl rfl h
def o21_9 : List (Nat × AOper) := (0, ⟨some 28, .mov (.t 12), none⟩) ::
   (1, ⟨some 8, .mov (.k (.v (.one .nils))), none⟩) ::
   (2, ⟨some 9, .mov (.t 28), none⟩) ::
   []
theorem h21_9 : wS fs out b o21_9 t h R = (wV fs out (b + 0) noT h (.mov (.k (t 12))) fun x28_0 h => wV fs out (b + 1) noT h (.mov (.k (.v (.one .nils)))) fun x8_1 h => wV fs out (b + 2) noT h (.mov (.k x28_0)) fun x9_2 h => R ⟨(upd (upd (upd t 28 x28_0) 8 x8_1) 9 x9_2), h⟩) := by kernel_rfl
def c21_9 : ACode := .region (o21_9.map (·.2)) [0, 1, 2] []
theorem s21_9 (h : wS fs out s.h.nx o21_9 s.t ⟨s.h.o, s.h.nx + 3⟩ (Q .normal)) : wC fs out c21_9 s Q := wC_region rfl rfl h
def c21_8 : ACode := .seq c21_9 .ret
theorem s21_8 (h : wS fs out s.h.nx o21_9 s.t ⟨s.h.o, s.h.nx + 3⟩ fun s1 => wC fs out .ret s1 Q) : wC fs out c21_8 s Q := wC_seq (s21_9 h)
def c21_7 : ACode := .cond (.t 27) c21_8 .skip [0, 1, 2, 3, 8, 9, 10, 11]
theorem s21_7 (h : onC (s.t 27) (wC fs out c21_8 s fun e s1 => Q e (keepOnly [0, 1, 2, 3, 8, 9, 10, 11] s1)) (Q .normal (keepOnly [0, 1, 2, 3, 8, 9, 10, 11] s))) : wC fs out c21_7 s Q := wC_condC (by first | exact h | (simp only [wC_skip, wC_exit, wC_ret]; exact h))
def c21_5 : ACode := .seq c21_6 c21_7
theorem s21_5 (h : wS fs out s.h.nx o21_6 s.t ⟨s.h.o, s.h.nx + 2⟩ fun s1 => wC fs out c21_7 s1 Q) : wC fs out c21_5 s Q := wC_seq (s21_6 h)
def o21_12_2 : List (Nat × AOper) := (7, ⟨some 36, .pick (.t 31) (.k (.v (.one (.bool true)))) (.t 35), none⟩) ::
   []
theorem h21_12_2 : wS fs out b o21_12_2 t h R = (wV fs out (b + 7) noT h (.pick (.k (t 31)) (.k (.v (.one (.bool true)))) (.k (t 35))) fun x36_0 h => R ⟨(upd t 36 x36_0), h⟩) := by kernel_rfl
def o21_12_1g : List (Nat × AOper) := (3, ⟨some 32, .mov (.t 3), none⟩) ::
   (4, ⟨some 33, .mov (.t 0), none⟩) ::
   (5, ⟨some 34, .len (.t 33), none⟩) ::
   (6, ⟨some 35, .bin .geq (.t 32) (.t 34), none⟩) ::
   []
theorem h21_12_1g : wS fs out b o21_12_1g t h R = (wV fs out (b + 3) noT h (.mov (.k (t 3))) fun x32_0 h => wV fs out (b + 4) noT h (.mov (.k (t 0))) fun x33_1 h => wV fs out (b + 5) noT h (.len (.k x33_1)) fun x34_2 h => wV fs out (b + 6) noT h (.bin .geq (.k x32_0) (.k x34_2)) fun x35_3 h => R ⟨(upd (upd (upd (upd t 32 x32_0) 33 x33_1) 34 x34_2) 35 x35_3), h⟩) := by kernel_rfl
def o21_12_1 : List (Nat × AOper) := grp 31 false o21_12_1g o21_12_2
theorem w21_12_1 : wS fs out b o21_12_1 t h R = onG (t 31) false (wS fs out b o21_12_1g (upd t 31 (.v (.one (.bool false)))) h fun s => wS fs out b o21_12_2 s.t s.h R) (wS fs out b o21_12_2 (upd (upd (upd (upd (upd t 31 (.v (.one (.bool true)))) 32 (.tup [])) 33 (.tup [])) 34 (.tup [])) 35 (.tup [])) h R) (wS fs out b o21_12_2 (upd (upd (upd (upd t 32 (.tup [])) 33 (.tup [])) 34 (.tup [])) 35 (.tup [])) h R) := wS_grpE rfl
def o21_12 : List (Nat × AOper) := (0, ⟨some 29, .mov (.t 3), none⟩) ::
   (1, ⟨some 30, .bin .lss (.t 29) (.k (.v (.one (.int .i64 0)))), none⟩) ::
   (2, ⟨some 31, .mov (.t 30), none⟩) ::
   o21_12_1
theorem h21_12 : wS fs out b o21_12 t h R = (wV fs out (b + 0) noT h (.mov (.k (t 3))) fun x29_0 h => wV fs out (b + 1) noT h (.bin .lss (.k x29_0) (.k (.v (.one (.int .i64 0))))) fun x30_1 h => wV fs out (b + 2) noT h (.mov (.k x30_1)) fun x31_2 h => wS fs out b o21_12_1 (upd (upd (upd t 29 x29_0) 30 x30_1) 31 x31_2) h R) := by kernel_rfl
def c21_12 : ACode := .region (o21_12.map (·.2)) [0, 1, 2, 3, 4, 5, 6, 7] []
theorem s21_12 (h : wS fs out s.h.nx o21_12 s.t ⟨s.h.o, s.h.nx + 8⟩ (Q .normal)) : wC fs out c21_12 s Q := wC_region rfl rfl h
def o21_15 : List (Nat × AOper) := (0, ⟨some 8, .mov (.k (.v (.one .nils))), none⟩) ::
   (1, ⟨some 9, .mov (.k (.v (.one (.int .i64 4)))), none⟩) ::
   []
theorem h21_15 : wS fs out b o21_15 t h R = (wV fs out (b + 0) noT h (.mov (.k (.v (.one .nils)))) fun x8_0 h => wV fs out (b + 1) noT h (.mov (.k (.v (.one (.int .i64 4))))) fun x9_1 h => R ⟨(upd (upd t 8 x8_0) 9 x9_1), h⟩) := by kernel_rfl
def c21_15 : ACode := .region (o21_15.map (·.2)) [0, 1] []
theorem s21_15 (h : wS fs out s.h.nx o21_15 s.t ⟨s.h.o, s.h.nx + 2⟩ (Q .normal)) : wC fs out c21_15 s Q := wC_region rfl rfl h
def c21_14 : ACode := .seq c21_15 .ret
theorem s21_14 (h : wS fs out s.h.nx o21_15 s.t ⟨s.h.o, s.h.nx + 2⟩ fun s1 => wC fs out .ret s1 Q) : wC fs out c21_14 s Q := wC_seq (s21_15 h)
def c21_13 : ACode := .cond (.t 36) c21_14 .skip [0, 1, 2, 3, 8, 9, 10, 11]
theorem s21_13 (h : onC (s.t 36) (wC fs out c21_14 s fun e s1 => Q e (keepOnly [0, 1, 2, 3, 8, 9, 10, 11] s1)) (Q .normal (keepOnly [0, 1, 2, 3, 8, 9, 10, 11] s))) : wC fs out c21_13 s Q := wC_condC (by first | exact h | (simp only [wC_skip, wC_exit, wC_ret]; exact h))
def c21_11 : ACode := .seq c21_12 c21_13
theorem s21_11 (h : wS fs out s.h.nx o21_12 s.t ⟨s.h.o, s.h.nx + 8⟩ fun s1 => wC fs out c21_13 s1 Q) : wC fs out c21_11 s Q := wC_seq (s21_12 h)
def o21_17 : List (Nat × AOper) := (0, ⟨some 13, .mov (.k (.v (.one .nils))), none⟩) ::
   []
theorem h21_17 : wS fs out b o21_17 t h R = (wV fs out (b + 0) noT h (.mov (.k (.v (.one .nils)))) fun x13_0 h => R ⟨(upd t 13 x13_0), h⟩) := by kernel_rfl
def c21_17 : ACode := .region (o21_17.map (·.2)) [0] []
theorem s21_17 (h : wS fs out s.h.nx o21_17 s.t ⟨s.h.o, s.h.nx + 1⟩ (Q .normal)) : wC fs out c21_17 s Q := wC_region rfl rfl h
def c21_22 : ACode := .region [⟨some 37, .mov (.t 10), none⟩,
   ⟨some 38, .mov (.t 3), none⟩,
   ⟨some 39, .iadr 1 (.t 37) (.t 38), none⟩,
   ⟨some 40, .load none (.t 39), none⟩,
   ⟨some 41, .mov (.t 2), none⟩,
   ⟨some 42, .mov (.t 3), none⟩,
   ⟨some 43, .call 30 [(.t 41), (.t 42)], none⟩,
   ⟨some 44, .bin .sub (.t 40) (.t 43), none⟩,
   ⟨some 14, .mov (.t 44), none⟩] [0, 1, 2, 3, 4, 5, 6, 7, 8] [(6, [3])]
def o21_22 : List (Nat × AOper) := (0, ⟨some 37, .mov (.t 10), none⟩) ::
   (1, ⟨some 38, .mov (.t 3), none⟩) ::
   (2, ⟨some 39, .iadr 1 (.t 37) (.t 38), none⟩) ::
   (3, ⟨some 40, .load none (.t 39), none⟩) ::
   (4, ⟨some 41, .mov (.t 2), none⟩) ::
   (5, ⟨some 42, .mov (.t 3), none⟩) ::
   (6, ⟨some 43, .call 30 [(.t 41), (.t 42)], none⟩) ::
   []
theorem h21_22 : wS fs out b o21_22 t h R = (wV fs out (b + 0) noT h (.mov (.k (t 10))) fun x37_0 h => wV fs out (b + 1) noT h (.mov (.k (t 3))) fun x38_1 h => wV fs out (b + 2) noT h (.iadr 1 (.k x37_0) (.k x38_1)) fun x39_2 h => wV fs out (b + 3) noT h (.load none (.k x39_2)) fun x40_3 h => wV fs out (b + 4) noT h (.mov (.k (t 2))) fun x41_4 h => wV fs out (b + 5) noT h (.mov (.k (t 3))) fun x42_5 h => wV fs out (b + 6) noT h (.call 30 [(.k x41_4), (.k x42_5)]) fun x43_6 h => R ⟨(upd (upd (upd (upd (upd (upd (upd t 37 x37_0) 38 x38_1) 39 x39_2) 40 x40_3) 41 x41_4) 42 x42_5) 43 x43_6), h⟩) := by kernel_rfl
def o21_22h1 : List (Nat × AOper) := (7, ⟨some 44, .bin .sub (.t 40) (.t 43), none⟩) ::
   (8, ⟨some 14, .mov (.t 44), none⟩) ::
   []
theorem h21_22h1 : wS fs out b o21_22h1 t h R = (wV fs out (b + 7) noT h (.bin .sub (.k (t 40)) (.k (t 43))) fun x44_0 h => wV fs out (b + 8) noT h (.mov (.k x44_0)) fun x14_1 h => R ⟨(upd (upd t 44 x44_0) 14 x14_1), h⟩) := by kernel_rfl
theorem s21_22 (h : wS fs out s.h.nx o21_22 s.t ⟨s.h.o, s.h.nx + 9⟩ fun s1 => (holdOk s1 ⟨some 40, .load none (.t 39), none⟩ = true) ∧ wS fs out s.h.nx o21_22h1 s1.t s1.h (Q .normal)) : wC fs out c21_22 s Q := wC_regionP (wP_seg (run := [0, 1, 2, 3, 4, 5]) (i0 := 6) (rest := [7, 8]) rfl rfl rfl (wS_mono _ h fun s1 hh1 => ⟨by simpa [and_assoc, holdsB, holdsOf] using hh1.1, (wP_end (run := [7, 8]) rfl rfl rfl hh1.2)⟩))
def o21_24 : List (Nat × AOper) := (0, ⟨some 15, .mov (.k (.v (.one (.int .i64 (-1))))), none⟩) ::
   []
theorem h21_24 : wS fs out b o21_24 t h R = (wV fs out (b + 0) noT h (.mov (.k (.v (.one (.int .i64 (-1)))))) fun x15_0 h => R ⟨(upd t 15 x15_0), h⟩) := by kernel_rfl
def c21_24 : ACode := .region (o21_24.map (·.2)) [0] []
theorem s21_24 (h : wS fs out s.h.nx o21_24 s.t ⟨s.h.o, s.h.nx + 1⟩ (Q .normal)) : wC fs out c21_24 s Q := wC_region rfl rfl h
def o21_27 : List (Nat × AOper) := (0, ⟨some 45, .mov (.t 1), none⟩) ::
   (1, ⟨some 46, .len (.t 45), none⟩) ::
   (2, ⟨some 47, .bin .sub (.t 46) (.k (.v (.one (.int .i64 1)))), none⟩) ::
   (3, ⟨some 16, .mov (.t 47), none⟩) ::
   []
theorem h21_27 : wS fs out b o21_27 t h R = (wV fs out (b + 0) noT h (.mov (.k (t 1))) fun x45_0 h => wV fs out (b + 1) noT h (.len (.k x45_0)) fun x46_1 h => wV fs out (b + 2) noT h (.bin .sub (.k x46_1) (.k (.v (.one (.int .i64 1))))) fun x47_2 h => wV fs out (b + 3) noT h (.mov (.k x47_2)) fun x16_3 h => R ⟨(upd (upd (upd (upd t 45 x45_0) 46 x46_1) 47 x47_2) 16 x16_3), h⟩) := by kernel_rfl
def c21_27 : ACode := .region (o21_27.map (·.2)) [0, 1, 2, 3] []
theorem s21_27 (h : wS fs out s.h.nx o21_27 s.t ⟨s.h.o, s.h.nx + 4⟩ (Q .normal)) : wC fs out c21_27 s Q := wC_region rfl rfl h
def o21_32 : List (Nat × AOper) := (0, ⟨some 48, .mov (.t 16), none⟩) ::
   (1, ⟨some 49, .bin .geq (.t 48) (.k (.v (.one (.int .i64 0)))), none⟩) ::
   []
theorem h21_32 : wS fs out b o21_32 t h R = (wV fs out (b + 0) noT h (.mov (.k (t 16))) fun x48_0 h => wV fs out (b + 1) noT h (.bin .geq (.k x48_0) (.k (.v (.one (.int .i64 0))))) fun x49_1 h => R ⟨(upd (upd t 48 x48_0) 49 x49_1), h⟩) := by kernel_rfl
def c21_32 : ACode := .region (o21_32.map (·.2)) [0, 1] []
theorem s21_32 (h : wS fs out s.h.nx o21_32 s.t ⟨s.h.o, s.h.nx + 2⟩ (Q .normal)) : wC fs out c21_32 s Q := wC_region rfl rfl h
def c21_33 : ACode := .cond (.t 49) .skip (.exit 2) [0, 1, 2, 3, 10, 11, 13, 14, 15, 16]
theorem s21_33 (h : onC (s.t 49) (Q .normal (keepOnly [0, 1, 2, 3, 10, 11, 13, 14, 15, 16] s)) (Q (.exit 2) (keepOnly [0, 1, 2, 3, 10, 11, 13, 14, 15, 16] s))) : wC fs out c21_33 s Q := wC_condC (by first | exact h | (simp only [wC_skip, wC_exit, wC_ret]; exact h))
def c21_31 : ACode := .seq c21_32 c21_33
theorem s21_31 (h : wS fs out s.h.nx o21_32 s.t ⟨s.h.o, s.h.nx + 2⟩ fun s1 => wC fs out c21_33 s1 Q) : wC fs out c21_31 s Q := wC_seq (s21_32 h)
def o21_37 : List (Nat × AOper) := (0, ⟨some 52, .mov (.t 1), none⟩) ::
   (1, ⟨some 53, .mov (.t 16), none⟩) ::
   (2, ⟨some 54, .iadr 4 (.t 52) (.t 53), none⟩) ::
   (3, ⟨some 55, .load (some 4) (.t 54), none⟩) ::
   (4, ⟨some 17, .new 35 [(.int .i64 0), (.int .i64 0), (.int .i64 0), (.int .i64 0)], none⟩) ::
   (5, ⟨none, .store 4 (.t 17) (.t 55), none⟩) ::
   []
theorem h21_37 : wS fs out b o21_37 t h R = (wV fs out (b + 0) noT h (.mov (.k (t 1))) fun x52_0 h => wV fs out (b + 1) noT h (.mov (.k (t 16))) fun x53_1 h => wV fs out (b + 2) noT h (.iadr 4 (.k x52_0) (.k x53_1)) fun x54_2 h => wV fs out (b + 3) noT h (.load (some 4) (.k x54_2)) fun x55_3 h => wV fs out (b + 4) noT h (.new 35 [(.int .i64 0), (.int .i64 0), (.int .i64 0), (.int .i64 0)]) fun x17_4 h => wV fs out (b + 5) noT h (.store 4 (.k x17_4) (.k x55_3)) fun _ h => R ⟨(upd (upd (upd (upd (upd t 52 x52_0) 53 x53_1) 54 x54_2) 55 x55_3) 17 x17_4), h⟩) := by kernel_rfl
def c21_37 : ACode := .region (o21_37.map (·.2)) [0, 1, 2, 3, 4, 5] []
theorem s21_37 (h : wS fs out s.h.nx o21_37 s.t ⟨s.h.o, s.h.nx + 6⟩ (Q .normal)) : wC fs out c21_37 s Q := wC_region rfl rfl h
def o21_39_8 : List (Nat × AOper) := (38, ⟨some 94, .pick (.t 78) (.t 93) (.k (.v (.one (.bool false)))), none⟩) ::
   []
theorem h21_39_8 : wS fs out b o21_39_8 t h R = (wV fs out (b + 38) noT h (.pick (.k (t 78)) (.k (t 93)) (.k (.v (.one (.bool false))))) fun x94_0 h => R ⟨(upd t 94 x94_0), h⟩) := by kernel_rfl
def o21_39_7g : List (Nat × AOper) := (37, ⟨some 93, .pick (.t 85) (.k (.v (.one (.bool true)))) (.t 92), none⟩) ::
   []
theorem h21_39_7g : wS fs out b o21_39_7g t h R = (wV fs out (b + 37) noT h (.pick (.k (t 85)) (.k (.v (.one (.bool true)))) (.k (t 92))) fun x93_0 h => R ⟨(upd t 93 x93_0), h⟩) := by kernel_rfl
def o21_39_7 : List (Nat × AOper) := grp 78 true o21_39_7g o21_39_8
theorem w21_39_7 : wS fs out b o21_39_7 t h R = onG (t 78) true (wS fs out b o21_39_7g (upd t 78 (.v (.one (.bool true)))) h fun s => wS fs out b o21_39_8 s.t s.h R) (wS fs out b o21_39_8 (upd (upd t 78 (.v (.one (.bool false)))) 93 (.tup [])) h R) (wS fs out b o21_39_8 (upd t 93 (.tup [])) h R) := wS_grpE rfl
def o21_39_6g : List (Nat × AOper) := (30, ⟨some 86, .mov (.t 14), none⟩) ::
   (31, ⟨some 87, .mov (.t 0), none⟩) ::
   (32, ⟨some 88, .mov (.t 3), none⟩) ::
   (33, ⟨some 89, .iadr 2 (.t 87) (.t 88), none⟩) ::
   (34, ⟨some 90, .fadr 0 (.t 89), none⟩) ::
   (35, ⟨some 91, .load none (.t 90), none⟩) ::
   (36, ⟨some 92, .bin .gtr (.t 86) (.t 91), none⟩) ::
   []
theorem h21_39_6g : wS fs out b o21_39_6g t h R = (wV fs out (b + 30) noT h (.mov (.k (t 14))) fun x86_0 h => wV fs out (b + 31) noT h (.mov (.k (t 0))) fun x87_1 h => wV fs out (b + 32) noT h (.mov (.k (t 3))) fun x88_2 h => wV fs out (b + 33) noT h (.iadr 2 (.k x87_1) (.k x88_2)) fun x89_3 h => wV fs out (b + 34) noT h (.fadr 0 (.k x89_3)) fun x90_4 h => wV fs out (b + 35) noT h (.load none (.k x90_4)) fun x91_5 h => wV fs out (b + 36) noT h (.bin .gtr (.k x86_0) (.k x91_5)) fun x92_6 h => R ⟨(upd (upd (upd (upd (upd (upd (upd t 86 x86_0) 87 x87_1) 88 x88_2) 89 x89_3) 90 x90_4) 91 x91_5) 92 x92_6), h⟩) := by kernel_rfl
def o21_39_6 : List (Nat × AOper) := grp 85 false o21_39_6g o21_39_7
theorem w21_39_6 : wS fs out b o21_39_6 t h R = onG (t 85) false (wS fs out b o21_39_6g (upd t 85 (.v (.one (.bool false)))) h fun s => wS fs out b o21_39_7 s.t s.h R) (wS fs out b o21_39_7 (upd (upd (upd (upd (upd (upd (upd (upd t 85 (.v (.one (.bool true)))) 86 (.tup [])) 87 (.tup [])) 88 (.tup [])) 89 (.tup [])) 90 (.tup [])) 91 (.tup [])) 92 (.tup [])) h R) (wS fs out b o21_39_7 (upd (upd (upd (upd (upd (upd (upd t 86 (.tup [])) 87 (.tup [])) 88 (.tup [])) 89 (.tup [])) 90 (.tup [])) 91 (.tup [])) 92 (.tup [])) h R) := wS_grpE rfl
def o21_39_5g : List (Nat × AOper) := (23, ⟨some 79, .mov (.t 0), none⟩) ::
   (24, ⟨some 80, .mov (.t 3), none⟩) ::
   (25, ⟨some 81, .iadr 2 (.t 79) (.t 80), none⟩) ::
   (26, ⟨some 82, .fadr 1 (.t 81), none⟩) ::
   (27, ⟨some 83, .load none (.t 82), none⟩) ::
   (28, ⟨some 84, .not (.t 83), none⟩) ::
   (29, ⟨some 85, .mov (.t 84), none⟩) ::
   []
theorem h21_39_5g : wS fs out b o21_39_5g t h R = (wV fs out (b + 23) noT h (.mov (.k (t 0))) fun x79_0 h => wV fs out (b + 24) noT h (.mov (.k (t 3))) fun x80_1 h => wV fs out (b + 25) noT h (.iadr 2 (.k x79_0) (.k x80_1)) fun x81_2 h => wV fs out (b + 26) noT h (.fadr 1 (.k x81_2)) fun x82_3 h => wV fs out (b + 27) noT h (.load none (.k x82_3)) fun x83_4 h => wV fs out (b + 28) noT h (.not (.k x83_4)) fun x84_5 h => wV fs out (b + 29) noT h (.mov (.k x84_5)) fun x85_6 h => R ⟨(upd (upd (upd (upd (upd (upd (upd t 79 x79_0) 80 x80_1) 81 x81_2) 82 x82_3) 83 x83_4) 84 x84_5) 85 x85_6), h⟩) := by kernel_rfl
def o21_39_5 : List (Nat × AOper) := grp 78 true o21_39_5g o21_39_6
theorem w21_39_5 : wS fs out b o21_39_5 t h R = onG (t 78) true (wS fs out b o21_39_5g (upd t 78 (.v (.one (.bool true)))) h fun s => wS fs out b o21_39_6 s.t s.h R) (wS fs out b o21_39_6 (upd (upd (upd (upd (upd (upd (upd (upd t 78 (.v (.one (.bool false)))) 79 (.tup [])) 80 (.tup [])) 81 (.tup [])) 82 (.tup [])) 83 (.tup [])) 84 (.tup [])) 85 (.tup [])) h R) (wS fs out b o21_39_6 (upd (upd (upd (upd (upd (upd (upd t 79 (.tup [])) 80 (.tup [])) 81 (.tup [])) 82 (.tup [])) 83 (.tup [])) 84 (.tup [])) 85 (.tup [])) h R) := wS_grpE rfl
def o21_39_4 : List (Nat × AOper) := (21, ⟨some 77, .pick (.t 66) (.t 76) (.k (.v (.one (.bool false)))), none⟩) ::
   (22, ⟨some 78, .mov (.t 77), none⟩) ::
   o21_39_5
theorem h21_39_4 : wS fs out b o21_39_4 t h R = (wV fs out (b + 21) noT h (.pick (.k (t 66)) (.k (t 76)) (.k (.v (.one (.bool false))))) fun x77_0 h => wV fs out (b + 22) noT h (.mov (.k x77_0)) fun x78_1 h => wS fs out b o21_39_5 (upd (upd t 77 x77_0) 78 x78_1) h R) := by kernel_rfl
def o21_39_3g : List (Nat × AOper) := (11, ⟨some 67, .mov (.t 10), none⟩) ::
   (12, ⟨some 68, .fadr 0 (.t 17), none⟩) ::
   (13, ⟨some 69, .load none (.t 68), none⟩) ::
   (14, ⟨some 70, .iadr 1 (.t 67) (.t 69), none⟩) ::
   (15, ⟨some 71, .load none (.t 70), none⟩) ::
   (16, ⟨some 72, .fadr 2 (.t 17), none⟩) ::
   (17, ⟨some 73, .load none (.t 72), none⟩) ::
   (18, ⟨some 74, .bin .add (.t 71) (.t 73), none⟩) ::
   (19, ⟨some 75, .mov (.t 14), none⟩) ::
   (20, ⟨some 76, .bin .eql (.t 74) (.t 75), none⟩) ::
   []
theorem h21_39_3g : wS fs out b o21_39_3g t h R = (wV fs out (b + 11) noT h (.mov (.k (t 10))) fun x67_0 h => wV fs out (b + 12) noT h (.fadr 0 (.k (t 17))) fun x68_1 h => wV fs out (b + 13) noT h (.load none (.k x68_1)) fun x69_2 h => wV fs out (b + 14) noT h (.iadr 1 (.k x67_0) (.k x69_2)) fun x70_3 h => wV fs out (b + 15) noT h (.load none (.k x70_3)) fun x71_4 h => wV fs out (b + 16) noT h (.fadr 2 (.k (t 17))) fun x72_5 h => wV fs out (b + 17) noT h (.load none (.k x72_5)) fun x73_6 h => wV fs out (b + 18) noT h (.bin .add (.k x71_4) (.k x73_6)) fun x74_7 h => wV fs out (b + 19) noT h (.mov (.k (t 14))) fun x75_8 h => wV fs out (b + 20) noT h (.bin .eql (.k x74_7) (.k x75_8)) fun x76_9 h => R ⟨(upd (upd (upd (upd (upd (upd (upd (upd (upd (upd t 67 x67_0) 68 x68_1) 69 x69_2) 70 x70_3) 71 x71_4) 72 x72_5) 73 x73_6) 74 x74_7) 75 x75_8) 76 x76_9), h⟩) := by kernel_rfl
def o21_39_3 : List (Nat × AOper) := grp 66 true o21_39_3g o21_39_4
theorem w21_39_3 : wS fs out b o21_39_3 t h R = onG (t 66) true (wS fs out b o21_39_3g (upd t 66 (.v (.one (.bool true)))) h fun s => wS fs out b o21_39_4 s.t s.h R) (wS fs out b o21_39_4 (upd (upd (upd (upd (upd (upd (upd (upd (upd (upd (upd t 66 (.v (.one (.bool false)))) 67 (.tup [])) 68 (.tup [])) 69 (.tup [])) 70 (.tup [])) 71 (.tup [])) 72 (.tup [])) 73 (.tup [])) 74 (.tup [])) 75 (.tup [])) 76 (.tup [])) h R) (wS fs out b o21_39_4 (upd (upd (upd (upd (upd (upd (upd (upd (upd (upd t 67 (.tup [])) 68 (.tup [])) 69 (.tup [])) 70 (.tup [])) 71 (.tup [])) 72 (.tup [])) 73 (.tup [])) 74 (.tup [])) 75 (.tup [])) 76 (.tup [])) h R) := wS_grpE rfl
def o21_39_2 : List (Nat × AOper) := (9, ⟨some 65, .pick (.t 60) (.t 64) (.k (.v (.one (.bool false)))), none⟩) ::
   (10, ⟨some 66, .mov (.t 65), none⟩) ::
   o21_39_3
theorem h21_39_2 : wS fs out b o21_39_2 t h R = (wV fs out (b + 9) noT h (.pick (.k (t 60)) (.k (t 64)) (.k (.v (.one (.bool false))))) fun x65_0 h => wV fs out (b + 10) noT h (.mov (.k x65_0)) fun x66_1 h => wS fs out b o21_39_3 (upd (upd t 65 x65_0) 66 x66_1) h R) := by kernel_rfl
def o21_39_1g : List (Nat × AOper) := (5, ⟨some 61, .mov (.t 11), none⟩) ::
   (6, ⟨some 62, .mov (.t 16), none⟩) ::
   (7, ⟨some 63, .iadr 1 (.t 61) (.t 62), none⟩) ::
   (8, ⟨some 64, .load none (.t 63), none⟩) ::
   []
theorem h21_39_1g : wS fs out b o21_39_1g t h R = (wV fs out (b + 5) noT h (.mov (.k (t 11))) fun x61_0 h => wV fs out (b + 6) noT h (.mov (.k (t 16))) fun x62_1 h => wV fs out (b + 7) noT h (.iadr 1 (.k x61_0) (.k x62_1)) fun x63_2 h => wV fs out (b + 8) noT h (.load none (.k x63_2)) fun x64_3 h => R ⟨(upd (upd (upd (upd t 61 x61_0) 62 x62_1) 63 x63_2) 64 x64_3), h⟩) := by kernel_rfl
def o21_39_1 : List (Nat × AOper) := grp 60 true o21_39_1g o21_39_2
theorem w21_39_1 : wS fs out b o21_39_1 t h R = onG (t 60) true (wS fs out b o21_39_1g (upd t 60 (.v (.one (.bool true)))) h fun s => wS fs out b o21_39_2 s.t s.h R) (wS fs out b o21_39_2 (upd (upd (upd (upd (upd t 60 (.v (.one (.bool false)))) 61 (.tup [])) 62 (.tup [])) 63 (.tup [])) 64 (.tup [])) h R) (wS fs out b o21_39_2 (upd (upd (upd (upd t 61 (.tup [])) 62 (.tup [])) 63 (.tup [])) 64 (.tup [])) h R) := wS_grpE rfl
def o21_39 : List (Nat × AOper) := (0, ⟨some 56, .fadr 1 (.t 17), none⟩) ::
   (1, ⟨some 57, .load none (.t 56), none⟩) ::
   (2, ⟨some 58, .mov (.t 3), none⟩) ::
   (3, ⟨some 59, .bin .eql (.t 57) (.t 58), none⟩) ::
   (4, ⟨some 60, .mov (.t 59), none⟩) ::
   o21_39_1
theorem h21_39 : wS fs out b o21_39 t h R = (wV fs out (b + 0) noT h (.fadr 1 (.k (t 17))) fun x56_0 h => wV fs out (b + 1) noT h (.load none (.k x56_0)) fun x57_1 h => wV fs out (b + 2) noT h (.mov (.k (t 3))) fun x58_2 h => wV fs out (b + 3) noT h (.bin .eql (.k x57_1) (.k x58_2)) fun x59_3 h => wV fs out (b + 4) noT h (.mov (.k x59_3)) fun x60_4 h => wS fs out b o21_39_1 (upd (upd (upd (upd (upd t 56 x56_0) 57 x57_1) 58 x58_2) 59 x59_3) 60 x60_4) h R) := by kernel_rfl
def c21_39 : ACode := .region (o21_39.map (·.2)) [0, 1, 2, 3, 4, 5, 6, 7, 8, 9, 10, 11, 12, 13, 14, 15, 16, 17, 18, 19, 20, 21, 22, 23, 24, 25, 26, 27, 28, 29, 30, 31, 32, 33, 34, 35, 36, 37, 38] []
theorem s21_39 (h : wS fs out s.h.nx o21_39 s.t ⟨s.h.o, s.h.nx + 39⟩ (Q .normal)) : wC fs out c21_39 s Q := wC_region rfl rfl h
def o21_41 : List (Nat × AOper) := (0, ⟨some 95, .mov (.t 16), none⟩) ::
   (1, ⟨some 15, .mov (.t 95), none⟩) ::
   []
theorem h21_41 : wS fs out b o21_41 t h R = (wV fs out (b + 0) noT h (.mov (.k (t 16))) fun x95_0 h => wV fs out (b + 1) noT h (.mov (.k x95_0)) fun x15_1 h => R ⟨(upd (upd t 95 x95_0) 15 x15_1), h⟩) := by kernel_rfl
def c21_41 : ACode := .region (o21_41.map (·.2)) [0, 1] []
theorem s21_41 (h : wS fs out s.h.nx o21_41 s.t ⟨s.h.o, s.h.nx + 2⟩ (Q .normal)) : wC fs out c21_41 s Q := wC_region rfl rfl h
def c21_40 : ACode := .cond (.t 94) c21_41 .skip [0, 1, 2, 3, 10, 11, 13, 14, 15, 16]
theorem s21_40 (h : onC (s.t 94) (wC fs out c21_41 s fun e s1 => Q e (keepOnly [0, 1, 2, 3, 10, 11, 13, 14, 15, 16] s1)) (Q .normal (keepOnly [0, 1, 2, 3, 10, 11, 13, 14, 15, 16] s))) : wC fs out c21_40 s Q := wC_condC (by first | exact h | (simp only [wC_skip, wC_exit, wC_ret]; exact h))
def c21_38 : ACode := .seq c21_39 c21_40
theorem s21_38 (h : wS fs out s.h.nx o21_39 s.t ⟨s.h.o, s.h.nx + 39⟩ fun s1 => wC fs out c21_40 s1 Q) : wC fs out c21_38 s Q := wC_seq (s21_39 h)
def c21_36 : ACode := .seq c21_37 c21_38
theorem s21_36 (h : wS fs out s.h.nx o21_37 s.t ⟨s.h.o, s.h.nx + 6⟩ fun s1 => wC fs out c21_38 s1 Q) : wC fs out c21_36 s Q := wC_seq (s21_37 h)
def c21_35 : ACode := .block 3 c21_36
theorem s21_35 (h : wC fs out c21_36 s fun e s1 => Q (if e = .exit 3 then .normal else e) s1) : wC fs out c21_35 s Q := wC_block h
def o21_42 : List (Nat × AOper) := (0, ⟨some 50, .mov (.t 16), none⟩) ::
   (1, ⟨some 51, .bin .sub (.t 50) (.k (.v (.one (.int .i64 1)))), none⟩) ::
   (2, ⟨some 16, .mov (.t 51), none⟩) ::
   []
theorem h21_42 : wS fs out b o21_42 t h R = (wV fs out (b + 0) noT h (.mov (.k (t 16))) fun x50_0 h => wV fs out (b + 1) noT h (.bin .sub (.k x50_0) (.k (.v (.one (.int .i64 1))))) fun x51_1 h => wV fs out (b + 2) noT h (.mov (.k x51_1)) fun x16_2 h => R ⟨(upd (upd (upd t 50 x50_0) 51 x51_1) 16 x16_2), h⟩) := by kernel_rfl
def c21_42 : ACode := .region (o21_42.map (·.2)) [0, 1, 2] []
theorem s21_42 (h : wS fs out s.h.nx o21_42 s.t ⟨s.h.o, s.h.nx + 3⟩ (Q .normal)) : wC fs out c21_42 s Q := wC_region rfl rfl h
def c21_34 : ACode := .seq c21_35 c21_42
theorem s21_34 (h : wC fs out c21_35 s fun e s1 => match e with | .normal => wC fs out c21_42 s1 Q | e => Q e s1) : wC fs out c21_34 s Q := wC_seq h
def c21_30 : ACode := .seq c21_31 c21_34
theorem s21_30 (h : wC fs out c21_31 s fun e s1 => match e with | .normal => wC fs out c21_34 s1 Q | e => Q e s1) : wC fs out c21_30 s Q := wC_seq h
def c21_29 : ACode := .loop [0, 1, 2, 3, 10, 11, 13, 14, 15, 16] c21_30
theorem s21_29 (I : Nat → St → Prop) (n : Nat) (h0 : I n (keepOnly [0, 1, 2, 3, 10, 11, 13, 14, 15, 16] s)) (step : ∀ m s (Q' : AExit → St → Prop), I m s → (∀ m' s1, m' < m → I m' (keepOnly [0, 1, 2, 3, 10, 11, 13, 14, 15, 16] s1) → Q' .normal s1) → (∀ i s1, Q (.exit i) s1 → Q' (.exit i) s1) → (∀ s1, Q .ret s1 → Q' .ret s1) → wC fs out c21_30 s Q') : wC fs out c21_29 s Q := wC_loopQ I n h0 step
def c21_28 : ACode := .block 2 c21_29
theorem s21_28 (h : wC fs out c21_29 s fun e s1 => Q (if e = .exit 2 then .normal else e) s1) : wC fs out c21_28 s Q := wC_block h
def c21_26 : ACode := .seq c21_27 c21_28
theorem s21_26 (h : wS fs out s.h.nx o21_27 s.t ⟨s.h.o, s.h.nx + 4⟩ fun s1 => wC fs out c21_28 s1 Q) : wC fs out c21_26 s Q := wC_seq (s21_27 h)
def o21_45 : List (Nat × AOper) := (0, ⟨some 96, .mov (.t 15), none⟩) ::
   (1, ⟨some 97, .bin .lss (.t 96) (.k (.v (.one (.int .i64 0)))), none⟩) ::
   []
theorem h21_45 : wS fs out b o21_45 t h R = (wV fs out (b + 0) noT h (.mov (.k (t 15))) fun x96_0 h => wV fs out (b + 1) noT h (.bin .lss (.k x96_0) (.k (.v (.one (.int .i64 0))))) fun x97_1 h => R ⟨(upd (upd t 96 x96_0) 97 x97_1), h⟩) := by kernel_rfl
def c21_45 : ACode := .region (o21_45.map (·.2)) [0, 1] []
theorem s21_45 (h : wS fs out s.h.nx o21_45 s.t ⟨s.h.o, s.h.nx + 2⟩ (Q .normal)) : wC fs out c21_45 s Q := wC_region rfl rfl h
def o21_48 : List (Nat × AOper) := (0, ⟨some 98, .mov (.t 13), none⟩) ::
   (1, ⟨some 8, .mov (.t 98), none⟩) ::
   (2, ⟨some 9, .mov (.k (.v (.one (.int .i64 0)))), none⟩) ::
   []
theorem h21_48 : wS fs out b o21_48 t h R = (wV fs out (b + 0) noT h (.mov (.k (t 13))) fun x98_0 h => wV fs out (b + 1) noT h (.mov (.k x98_0)) fun x8_1 h => wV fs out (b + 2) noT h (.mov (.k (.v (.one (.int .i64 0))))) fun x9_2 h => R ⟨(upd (upd (upd t 98 x98_0) 8 x8_1) 9 x9_2), h⟩) := by kernel_rfl
def c21_48 : ACode := .region (o21_48.map (·.2)) [0, 1, 2] []
theorem s21_48 (h : wS fs out s.h.nx o21_48 s.t ⟨s.h.o, s.h.nx + 3⟩ (Q .normal)) : wC fs out c21_48 s Q := wC_region rfl rfl h
def c21_47 : ACode := .seq c21_48 .ret
theorem s21_47 (h : wS fs out s.h.nx o21_48 s.t ⟨s.h.o, s.h.nx + 3⟩ fun s1 => wC fs out .ret s1 Q) : wC fs out c21_47 s Q := wC_seq (s21_48 h)
def c21_46 : ACode := .cond (.t 97) c21_47 .skip [0, 1, 2, 8, 9, 10, 11, 13, 15]
theorem s21_46 (h : onC (s.t 97) (wC fs out c21_47 s fun e s1 => Q e (keepOnly [0, 1, 2, 8, 9, 10, 11, 13, 15] s1)) (Q .normal (keepOnly [0, 1, 2, 8, 9, 10, 11, 13, 15] s))) : wC fs out c21_46 s Q := wC_condC (by first | exact h | (simp only [wC_skip, wC_exit, wC_ret]; exact h))
def c21_44 : ACode := .seq c21_45 c21_46
theorem s21_44 (h : wS fs out s.h.nx o21_45 s.t ⟨s.h.o, s.h.nx + 2⟩ fun s1 => wC fs out c21_46 s1 Q) : wC fs out c21_44 s Q := wC_seq (s21_45 h)
def o21_50_1 : List (Nat × AOper) := (4, ⟨some 13, .mov (.t 102), none⟩) ::
   []
theorem h21_50_1 : wS fs out b o21_50_1 t h R = (wV fs out (b + 4) noT h (.mov (.k (t 102))) fun x13_0 h => R ⟨(upd t 13 x13_0), h⟩) := by kernel_rfl
def o21_50 : List (Nat × AOper) := (0, ⟨some 99, .mov (.t 13), none⟩) ::
   (1, ⟨some 100, .mov (.t 15), none⟩) ::
   (2, ⟨some 101, .bsl 3 1 1 [(.int .i64 0)] [(0, 1, (.t 100))], none⟩) ::
   (3, ⟨some 102, .app 3 1 8 (.t 99) (.t 101), none⟩) ::
   o21_50_1
theorem h21_50 : wS fs out b o21_50 t h R = (wV fs out (b + 0) noT h (.mov (.k (t 13))) fun x99_0 h => wV fs out (b + 1) noT h (.mov (.k (t 15))) fun x100_1 h => wV fs out (b + 2) noT h (.bsl 3 1 1 [(.int .i64 0)] [(0, 1, (.k x100_1))]) fun x101_2 h => wV fs out (b + 3) noT h (.app 3 1 8 (.k x99_0) (.k x101_2)) fun x102_3 h => wS fs out b o21_50_1 (upd (upd (upd (upd t 99 x99_0) 100 x100_1) 101 x101_2) 102 x102_3) h R) := by kernel_rfl
def c21_50 : ACode := .region (o21_50.map (·.2)) [0, 1, 2, 3, 4] []
theorem s21_50 (h : wS fs out s.h.nx o21_50 s.t ⟨s.h.o, s.h.nx + 5⟩ (Q .normal)) : wC fs out c21_50 s Q := wC_region rfl rfl h
def o21_51 : List (Nat × AOper) := (0, ⟨some 103, .mov (.t 1), none⟩) ::
   (1, ⟨some 104, .mov (.t 15), none⟩) ::
   (2, ⟨some 105, .iadr 4 (.t 103) (.t 104), none⟩) ::
   (3, ⟨some 106, .fadr 0 (.t 105), none⟩) ::
   (4, ⟨some 107, .load none (.t 106), none⟩) ::
   (5, ⟨some 3, .mov (.t 107), none⟩) ::
   []
theorem h21_51 : wS fs out b o21_51 t h R = (wV fs out (b + 0) noT h (.mov (.k (t 1))) fun x103_0 h => wV fs out (b + 1) noT h (.mov (.k (t 15))) fun x104_1 h => wV fs out (b + 2) noT h (.iadr 4 (.k x103_0) (.k x104_1)) fun x105_2 h => wV fs out (b + 3) noT h (.fadr 0 (.k x105_2)) fun x106_3 h => wV fs out (b + 4) noT h (.load none (.k x106_3)) fun x107_4 h => wV fs out (b + 5) noT h (.mov (.k x107_4)) fun x3_5 h => R ⟨(upd (upd (upd (upd (upd (upd t 103 x103_0) 104 x104_1) 105 x105_2) 106 x106_3) 107 x107_4) 3 x3_5), h⟩) := by kernel_rfl
def c21_51 : ACode := .region (o21_51.map (·.2)) [0, 1, 2, 3, 4, 5] []
theorem s21_51 (h : wS fs out s.h.nx o21_51 s.t ⟨s.h.o, s.h.nx + 6⟩ (Q .normal)) : wC fs out c21_51 s Q := wC_region rfl rfl h
def c21_49 : ACode := .seq c21_50 c21_51
theorem s21_49 (h : wS fs out s.h.nx o21_50 s.t ⟨s.h.o, s.h.nx + 5⟩ fun s1 => wC fs out c21_51 s1 Q) : wC fs out c21_49 s Q := wC_seq (s21_50 h)
def c21_43 : ACode := .seq c21_44 c21_49
theorem s21_43 (h : wC fs out c21_44 s fun e s1 => match e with | .normal => wC fs out c21_49 s1 Q | e => Q e s1) : wC fs out c21_43 s Q := wC_seq h
def c21_25 : ACode := .seq c21_26 c21_43
theorem s21_25 (h : wC fs out c21_26 s fun e s1 => match e with | .normal => wC fs out c21_43 s1 Q | e => Q e s1) : wC fs out c21_25 s Q := wC_seq h
def c21_23 : ACode := .seq c21_24 c21_25
theorem s21_23 (h : wS fs out s.h.nx o21_24 s.t ⟨s.h.o, s.h.nx + 1⟩ fun s1 => wC fs out c21_25 s1 Q) : wC fs out c21_23 s Q := wC_seq (s21_24 h)
def c21_21 : ACode := .seq c21_22 c21_23
theorem s21_21 (h : wC fs out c21_22 s fun e s1 => match e with | .normal => wC fs out c21_23 s1 Q | e => Q e s1) : wC fs out c21_21 s Q := wC_seq h
def c21_20 : ACode := .block 1 c21_21
theorem s21_20 (h : wC fs out c21_21 s fun e s1 => Q (if e = .exit 1 then .normal else e) s1) : wC fs out c21_20 s Q := wC_block h
def c21_19 : ACode := .loop [0, 1, 2, 3, 10, 11, 13] c21_20
theorem s21_19 (I : Nat → St → Prop) (n : Nat) (h0 : I n (keepOnly [0, 1, 2, 3, 10, 11, 13] s)) (step : ∀ m s (Q' : AExit → St → Prop), I m s → (∀ m' s1, m' < m → I m' (keepOnly [0, 1, 2, 3, 10, 11, 13] s1) → Q' .normal s1) → (∀ i s1, Q (.exit i) s1 → Q' (.exit i) s1) → (∀ s1, Q .ret s1 → Q' .ret s1) → wC fs out c21_20 s Q') : wC fs out c21_19 s Q := wC_loopQ I n h0 step
def c21_18 : ACode := .block 0 c21_19
theorem s21_18 (h : wC fs out c21_19 s fun e s1 => Q (if e = .exit 0 then .normal else e) s1) : wC fs out c21_18 s Q := wC_block h
def c21_16 : ACode := .seq c21_17 c21_18
theorem s21_16 (h : wS fs out s.h.nx o21_17 s.t ⟨s.h.o, s.h.nx + 1⟩ fun s1 => wC fs out c21_18 s1 Q) : wC fs out c21_16 s Q := wC_seq (s21_17 h)
def c21_10 : ACode := .seq c21_11 c21_16
theorem s21_10 (h : wC fs out c21_11 s fun e s1 => match e with | .normal => wC fs out c21_16 s1 Q | e => Q e s1) : wC fs out c21_10 s Q := wC_seq h
def c21_4 : ACode := .seq c21_5 c21_10
theorem s21_4 (h : wC fs out c21_5 s fun e s1 => match e with | .normal => wC fs out c21_10 s1 Q | e => Q e s1) : wC fs out c21_4 s Q := wC_seq h
def c21_2 : ACode := .seq c21_3 c21_4
theorem s21_2 (h : wS fs out s.h.nx o21_3 s.t ⟨s.h.o, s.h.nx + 11⟩ fun s1 => wC fs out c21_4 s1 Q) : wC fs out c21_2 s Q := wC_seq (s21_3 h)
def c21_0 : ACode := .seq c21_1 c21_2
theorem s21_0 (h : wS fs out s.h.nx o21_1 s.t ⟨s.h.o, s.h.nx + 2⟩ fun s1 => wC fs out c21_2 s1 Q) : wC fs out c21_0 s Q := wC_seq (s21_1 h)
def a21 : AFunc := ⟨4, [8, 9], none, c21_0⟩
theorem t21 : tell Try.prog Try.f21 [([0, 1, 2, 3, 8, 9, 10, 11], [], []), ([0, 1, 2, 3, 8, 9, 10, 11], [], []), ([0, 1, 2, 3, 10, 11, 13], [], []), ([0, 1, 2, 3, 4, 5, 6, 7, 8], [(6, [3])], [0, 0, 3, 7, 0, 0, 48, 127, 255]), ([0, 1, 2, 3, 10, 11, 13, 14, 15, 16], [], []), ([0, 1, 2, 3, 10, 11, 13, 14, 15, 16], [], []), ([0, 1, 2, 3, 4, 5, 6, 7, 8, 9, 10, 11, 12, 13, 14, 15, 16, 17, 18, 19, 20, 21, 22, 23, 24, 25, 26, 27, 28, 29, 30, 31, 32, 33, 34, 35, 36, 37, 38], [], [0, 1, 0, 7, 15, 31, 31, 127, 255, 511, 1023, 2047, 2047, 6143, 16383, 32767, 2047, 67583, 262143, 2047, 1048575, 2097151, 4194303, 8388607, 8388607, 33554431, 67108863, 134217727, 268435455, 536870911, 1073741823, 1073741823, 1073741823, 7516192767, 16106127359, 33285996543, 68719476735, 137438953471, 274877906943]), ([0, 1, 2, 3, 10, 11, 13, 14, 15, 16], [], []), ([0, 1, 2, 8, 9, 10, 11, 13, 15], [], [])] = some a21 := by kernel_rfl
theorem ok21 : FuncOk Try.prog 21 a21 := tell_ok Try.func21 t21

end Go.Proofs.Ythoicdnlcnppgaa.Fn
