/- Functions of the program, as the abstract machine's, and that they are. Conditions: none. -/
import Derived.Test.YtellgcahkpaldaaAmCo
import Derived.Test.YtellgcahkpaldaaAmEv
import Derived.Test.YtellgcahkpaldaaProg
set_option linter.unusedVariables false
set_option linter.unusedSimpArgs false
namespace Go.Proofs.Ytellgcahkpaldaa.Fn
open Go Go.Am
set_option maxRecDepth 100000
variable {fs : Nat → Option AFunc} {out : Rec} {s : St} {Q : AExit → St → Prop} {b : Nat} {t : Nat → T} {h : AH} {R : St → Prop}
/-- railplan/railplanref30.Feed -/
def o19_1 : List (Nat × AOper) := (0, ⟨some 2, .box 26 3 (.t 0), none⟩) ::
   (1, ⟨some 3, .box 31 4 (.t 1), none⟩) ::
   (2, ⟨some 4, .new 26 [(.int .i64 0), (.int .i64 0), (.int .i64 0)], none⟩) ::
   []
theorem h19_1 : wS fs out b o19_1 t h R = (wV fs out (b + 0) noT h (.box 26 3 (.k (t 0))) fun x2_0 h => wV fs out (b + 1) noT h (.box 31 4 (.k (t 1))) fun x3_1 h => wV fs out (b + 2) noT h (.new 26 [(.int .i64 0), (.int .i64 0), (.int .i64 0)]) fun x4_2 h => R ⟨(upd (upd (upd t 2 x2_0) 3 x3_1) 4 x4_2), h⟩) := by kernel_rfl
def c19_1 : ACode := .region (o19_1.map (·.2)) [0, 1, 2] []
theorem s19_1 (h : wS fs out s.h.nx o19_1 s.t ⟨s.h.o, s.h.nx + 3⟩ (Q .normal)) : wC fs out c19_1 s Q := wC_region rfl rfl h
def o19_4_7 : List (Nat × AOper) := (19, ⟨some 25, .pick (.t 21) (.k (.v (.one (.bool true)))) (.t 24), none⟩) ::
   []
theorem h19_4_7 : wS fs out b o19_4_7 t h R = (wV fs out (b + 19) noT h (.pick (.k (t 21)) (.k (.v (.one (.bool true)))) (.k (t 24))) fun x25_0 h => R ⟨(upd t 25 x25_0), h⟩) := by kernel_rfl
def o19_4_6g : List (Nat × AOper) := (16, ⟨some 22, .fadr 2 (.t 3), none⟩) ::
   (17, ⟨some 23, .load none (.t 22), none⟩) ::
   (18, ⟨some 24, .bin .gtr (.t 23) (.k (.v (.one (.int .i64 400)))), none⟩) ::
   []
theorem h19_4_6g : wS fs out b o19_4_6g t h R = (wV fs out (b + 16) noT h (.fadr 2 (.k (t 3))) fun x22_0 h => wV fs out (b + 17) noT h (.load none (.k x22_0)) fun x23_1 h => wV fs out (b + 18) noT h (.bin .gtr (.k x23_1) (.k (.v (.one (.int .i64 400))))) fun x24_2 h => R ⟨(upd (upd (upd t 22 x22_0) 23 x23_1) 24 x24_2), h⟩) := by kernel_rfl
def o19_4_6 : List (Nat × AOper) := grp 21 false o19_4_6g o19_4_7
theorem w19_4_6 : wS fs out b o19_4_6 t h R = onG (t 21) false (wS fs out b o19_4_6g (upd t 21 (.v (.one (.bool false)))) h fun s => wS fs out b o19_4_7 s.t s.h R) (wS fs out b o19_4_7 (upd (upd (upd (upd t 21 (.v (.one (.bool true)))) 22 (.tup [])) 23 (.tup [])) 24 (.tup [])) h R) (wS fs out b o19_4_7 (upd (upd (upd t 22 (.tup [])) 23 (.tup [])) 24 (.tup [])) h R) := wS_grpE rfl
def o19_4_5 : List (Nat × AOper) := (14, ⟨some 20, .pick (.t 16) (.k (.v (.one (.bool true)))) (.t 19), none⟩) ::
   (15, ⟨some 21, .mov (.t 20), none⟩) ::
   o19_4_6
theorem h19_4_5 : wS fs out b o19_4_5 t h R = (wV fs out (b + 14) noT h (.pick (.k (t 16)) (.k (.v (.one (.bool true)))) (.k (t 19))) fun x20_0 h => wV fs out (b + 15) noT h (.mov (.k x20_0)) fun x21_1 h => wS fs out b o19_4_6 (upd (upd t 20 x20_0) 21 x21_1) h R) := by kernel_rfl
def o19_4_4g : List (Nat × AOper) := (11, ⟨some 17, .fadr 2 (.t 3), none⟩) ::
   (12, ⟨some 18, .load none (.t 17), none⟩) ::
   (13, ⟨some 19, .bin .lss (.t 18) (.k (.v (.one (.int .i64 1)))), none⟩) ::
   []
theorem h19_4_4g : wS fs out b o19_4_4g t h R = (wV fs out (b + 11) noT h (.fadr 2 (.k (t 3))) fun x17_0 h => wV fs out (b + 12) noT h (.load none (.k x17_0)) fun x18_1 h => wV fs out (b + 13) noT h (.bin .lss (.k x18_1) (.k (.v (.one (.int .i64 1))))) fun x19_2 h => R ⟨(upd (upd (upd t 17 x17_0) 18 x18_1) 19 x19_2), h⟩) := by kernel_rfl
def o19_4_4 : List (Nat × AOper) := grp 16 false o19_4_4g o19_4_5
theorem w19_4_4 : wS fs out b o19_4_4 t h R = onG (t 16) false (wS fs out b o19_4_4g (upd t 16 (.v (.one (.bool false)))) h fun s => wS fs out b o19_4_5 s.t s.h R) (wS fs out b o19_4_5 (upd (upd (upd (upd t 16 (.v (.one (.bool true)))) 17 (.tup [])) 18 (.tup [])) 19 (.tup [])) h R) (wS fs out b o19_4_5 (upd (upd (upd t 17 (.tup [])) 18 (.tup [])) 19 (.tup [])) h R) := wS_grpE rfl
def o19_4_3 : List (Nat × AOper) := (9, ⟨some 15, .pick (.t 9) (.k (.v (.one (.bool true)))) (.t 14), none⟩) ::
   (10, ⟨some 16, .mov (.t 15), none⟩) ::
   o19_4_4
theorem h19_4_3 : wS fs out b o19_4_3 t h R = (wV fs out (b + 9) noT h (.pick (.k (t 9)) (.k (.v (.one (.bool true)))) (.k (t 14))) fun x15_0 h => wV fs out (b + 10) noT h (.mov (.k x15_0)) fun x16_1 h => wS fs out b o19_4_4 (upd (upd t 15 x15_0) 16 x16_1) h R) := by kernel_rfl
def o19_4_2g : List (Nat × AOper) := (4, ⟨some 10, .fadr 2 (.t 3), none⟩) ::
   (5, ⟨some 11, .load none (.t 10), none⟩) ::
   (6, ⟨some 12, .fadr 3 (.t 3), none⟩) ::
   (7, ⟨some 13, .load none (.t 12), none⟩) ::
   (8, ⟨some 14, .bin .neq (.t 11) (.t 13), none⟩) ::
   []
theorem h19_4_2g : wS fs out b o19_4_2g t h R = (wV fs out (b + 4) noT h (.fadr 2 (.k (t 3))) fun x10_0 h => wV fs out (b + 5) noT h (.load none (.k x10_0)) fun x11_1 h => wV fs out (b + 6) noT h (.fadr 3 (.k (t 3))) fun x12_2 h => wV fs out (b + 7) noT h (.load none (.k x12_2)) fun x13_3 h => wV fs out (b + 8) noT h (.bin .neq (.k x11_1) (.k x13_3)) fun x14_4 h => R ⟨(upd (upd (upd (upd (upd t 10 x10_0) 11 x11_1) 12 x12_2) 13 x13_3) 14 x14_4), h⟩) := by kernel_rfl
def o19_4_2 : List (Nat × AOper) := grp 9 false o19_4_2g o19_4_3
theorem w19_4_2 : wS fs out b o19_4_2 t h R = onG (t 9) false (wS fs out b o19_4_2g (upd t 9 (.v (.one (.bool false)))) h fun s => wS fs out b o19_4_3 s.t s.h R) (wS fs out b o19_4_3 (upd (upd (upd (upd (upd (upd t 9 (.v (.one (.bool true)))) 10 (.tup [])) 11 (.tup [])) 12 (.tup [])) 13 (.tup [])) 14 (.tup [])) h R) (wS fs out b o19_4_3 (upd (upd (upd (upd (upd t 10 (.tup [])) 11 (.tup [])) 12 (.tup [])) 13 (.tup [])) 14 (.tup [])) h R) := wS_grpE rfl
def o19_4_1 : List (Nat × AOper) := (2, ⟨some 8, .not (.t 7), none⟩) ::
   (3, ⟨some 9, .mov (.t 8), none⟩) ::
   o19_4_2
theorem h19_4_1 : wS fs out b o19_4_1 t h R = (wV fs out (b + 2) noT h (.not (.k (t 7))) fun x8_0 h => wV fs out (b + 3) noT h (.mov (.k x8_0)) fun x9_1 h => wS fs out b o19_4_2 (upd (upd t 8 x8_0) 9 x9_1) h R) := by kernel_rfl
def o19_4 : List (Nat × AOper) := (0, ⟨some 6, .load (some 3) (.t 2), none⟩) ::
   (1, ⟨some 7, .call 28 [(.t 6)], none⟩) ::
   o19_4_1
theorem h19_4 : wS fs out b o19_4 t h R = (wV fs out (b + 0) noT h (.load (some 3) (.k (t 2))) fun x6_0 h => wV fs out (b + 1) noT h (.call 28 [(.k x6_0)]) fun x7_1 h => wS fs out b o19_4_1 (upd (upd t 6 x6_0) 7 x7_1) h R) := by kernel_rfl
def c19_4 : ACode := .region (o19_4.map (·.2)) [0, 1, 2, 3, 4, 5, 6, 7, 8, 9, 10, 11, 12, 13, 14, 15, 16, 17, 18, 19] []
theorem s19_4 (h : wS fs out s.h.nx o19_4 s.t ⟨s.h.o, s.h.nx + 20⟩ (Q .normal)) : wC fs out c19_4 s Q := wC_region rfl rfl h
def o19_7 : List (Nat × AOper) := (0, ⟨some 26, .build [(.int .i64 0), (.int .i64 0), (.int .i64 0)] [(0, 1, (.k (.v (.one (.int .i64 1)))))], none⟩) ::
   (1, ⟨none, .store 3 (.t 4) (.t 26), none⟩) ::
   []
theorem h19_7 : wS fs out b o19_7 t h R = (wV fs out (b + 0) noT h (.build [(.int .i64 0), (.int .i64 0), (.int .i64 0)] [(0, 1, (.k (.v (.one (.int .i64 1)))))]) fun x26_0 h => wV fs out (b + 1) noT h (.store 3 (.k (t 4)) (.k x26_0)) fun _ h => R ⟨(upd t 26 x26_0), h⟩) := by kernel_rfl
def c19_7 : ACode := .region (o19_7.map (·.2)) [0, 1] []
theorem s19_7 (h : wS fs out s.h.nx o19_7 s.t ⟨s.h.o, s.h.nx + 2⟩ (Q .normal)) : wC fs out c19_7 s Q := wC_region rfl rfl h
def c19_6 : ACode := .seq c19_7 .ret
theorem s19_6 (h : wS fs out s.h.nx o19_7 s.t ⟨s.h.o, s.h.nx + 2⟩ fun s1 => wC fs out .ret s1 Q) : wC fs out c19_6 s Q := wC_seq (s19_7 h)
def c19_5 : ACode := .cond (.t 25) c19_6 .skip [2, 3, 4]
theorem s19_5 (h : onC (s.t 25) (wC fs out c19_6 s fun e s1 => Q e (keepOnly [2, 3, 4] s1)) (Q .normal (keepOnly [2, 3, 4] s))) : wC fs out c19_5 s Q := wC_condC (by first | exact h | (simp only [wC_skip, wC_exit, wC_ret]; exact h))
def c19_3 : ACode := .seq c19_4 c19_5
theorem s19_3 (h : wS fs out s.h.nx o19_4 s.t ⟨s.h.o, s.h.nx + 20⟩ fun s1 => wC fs out c19_5 s1 Q) : wC fs out c19_3 s Q := wC_seq (s19_4 h)
def o19_9 : List (Nat × AOper) := (0, ⟨some 27, .fadr 1 (.t 2), none⟩) ::
   (1, ⟨some 28, .load none (.t 27), none⟩) ::
   (2, ⟨some 29, .fadr 2 (.t 3), none⟩) ::
   (3, ⟨some 30, .load none (.t 29), none⟩) ::
   (4, ⟨some 31, .bin .sub (.t 28) (.t 30), none⟩) ::
   (5, ⟨some 5, .mov (.t 31), none⟩) ::
   []
theorem h19_9 : wS fs out b o19_9 t h R = (wV fs out (b + 0) noT h (.fadr 1 (.k (t 2))) fun x27_0 h => wV fs out (b + 1) noT h (.load none (.k x27_0)) fun x28_1 h => wV fs out (b + 2) noT h (.fadr 2 (.k (t 3))) fun x29_2 h => wV fs out (b + 3) noT h (.load none (.k x29_2)) fun x30_3 h => wV fs out (b + 4) noT h (.bin .sub (.k x28_1) (.k x30_3)) fun x31_4 h => wV fs out (b + 5) noT h (.mov (.k x31_4)) fun x5_5 h => R ⟨(upd (upd (upd (upd (upd (upd t 27 x27_0) 28 x28_1) 29 x29_2) 30 x30_3) 31 x31_4) 5 x5_5), h⟩) := by kernel_rfl
def c19_9 : ACode := .region (o19_9.map (·.2)) [0, 1, 2, 3, 4, 5] []
theorem s19_9 (h : wS fs out s.h.nx o19_9 s.t ⟨s.h.o, s.h.nx + 6⟩ (Q .normal)) : wC fs out c19_9 s Q := wC_region rfl rfl h
def o19_12 : List (Nat × AOper) := (0, ⟨some 32, .fadr 1 (.t 3), none⟩) ::
   (1, ⟨some 33, .load none (.t 32), none⟩) ::
   []
theorem h19_12 : wS fs out b o19_12 t h R = (wV fs out (b + 0) noT h (.fadr 1 (.k (t 3))) fun x32_0 h => wV fs out (b + 1) noT h (.load none (.k x32_0)) fun x33_1 h => R ⟨(upd (upd t 32 x32_0) 33 x33_1), h⟩) := by kernel_rfl
def c19_12 : ACode := .region (o19_12.map (·.2)) [0, 1] []
theorem s19_12 (h : wS fs out s.h.nx o19_12 s.t ⟨s.h.o, s.h.nx + 2⟩ (Q .normal)) : wC fs out c19_12 s Q := wC_region rfl rfl h
def o19_14 : List (Nat × AOper) := (0, ⟨some 34, .fadr 1 (.t 2), none⟩) ::
   (1, ⟨some 35, .load none (.t 34), none⟩) ::
   (2, ⟨some 36, .fadr 2 (.t 3), none⟩) ::
   (3, ⟨some 37, .load none (.t 36), none⟩) ::
   (4, ⟨some 38, .bin .add (.t 35) (.t 37), none⟩) ::
   (5, ⟨some 5, .mov (.t 38), none⟩) ::
   []
theorem h19_14 : wS fs out b o19_14 t h R = (wV fs out (b + 0) noT h (.fadr 1 (.k (t 2))) fun x34_0 h => wV fs out (b + 1) noT h (.load none (.k x34_0)) fun x35_1 h => wV fs out (b + 2) noT h (.fadr 2 (.k (t 3))) fun x36_2 h => wV fs out (b + 3) noT h (.load none (.k x36_2)) fun x37_3 h => wV fs out (b + 4) noT h (.bin .add (.k x35_1) (.k x37_3)) fun x38_4 h => wV fs out (b + 5) noT h (.mov (.k x38_4)) fun x5_5 h => R ⟨(upd (upd (upd (upd (upd (upd t 34 x34_0) 35 x35_1) 36 x36_2) 37 x37_3) 38 x38_4) 5 x5_5), h⟩) := by kernel_rfl
def c19_14 : ACode := .region (o19_14.map (·.2)) [0, 1, 2, 3, 4, 5] []
theorem s19_14 (h : wS fs out s.h.nx o19_14 s.t ⟨s.h.o, s.h.nx + 6⟩ (Q .normal)) : wC fs out c19_14 s Q := wC_region rfl rfl h
def c19_13 : ACode := .cond (.t 33) c19_14 .skip [2, 3, 4, 5]
theorem s19_13 (h : onC (s.t 33) (wC fs out c19_14 s fun e s1 => Q e (keepOnly [2, 3, 4, 5] s1)) (Q .normal (keepOnly [2, 3, 4, 5] s))) : wC fs out c19_13 s Q := wC_condC (by first | exact h | (simp only [wC_skip, wC_exit, wC_ret]; exact h))
def c19_11 : ACode := .seq c19_12 c19_13
theorem s19_11 (h : wS fs out s.h.nx o19_12 s.t ⟨s.h.o, s.h.nx + 2⟩ fun s1 => wC fs out c19_13 s1 Q) : wC fs out c19_11 s Q := wC_seq (s19_12 h)
def o19_17_2 : List (Nat × AOper) := (5, ⟨some 44, .pick (.t 41) (.k (.v (.one (.bool true)))) (.t 43), none⟩) ::
   []
theorem h19_17_2 : wS fs out b o19_17_2 t h R = (wV fs out (b + 5) noT h (.pick (.k (t 41)) (.k (.v (.one (.bool true)))) (.k (t 43))) fun x44_0 h => R ⟨(upd t 44 x44_0), h⟩) := by kernel_rfl
def o19_17_1g : List (Nat × AOper) := (3, ⟨some 42, .mov (.t 5), none⟩) ::
   (4, ⟨some 43, .bin .gtr (.t 42) (.k (.v (.one (.int .i64 1600)))), none⟩) ::
   []
theorem h19_17_1g : wS fs out b o19_17_1g t h R = (wV fs out (b + 3) noT h (.mov (.k (t 5))) fun x42_0 h => wV fs out (b + 4) noT h (.bin .gtr (.k x42_0) (.k (.v (.one (.int .i64 1600))))) fun x43_1 h => R ⟨(upd (upd t 42 x42_0) 43 x43_1), h⟩) := by kernel_rfl
def o19_17_1 : List (Nat × AOper) := grp 41 false o19_17_1g o19_17_2
theorem w19_17_1 : wS fs out b o19_17_1 t h R = onG (t 41) false (wS fs out b o19_17_1g (upd t 41 (.v (.one (.bool false)))) h fun s => wS fs out b o19_17_2 s.t s.h R) (wS fs out b o19_17_2 (upd (upd (upd t 41 (.v (.one (.bool true)))) 42 (.tup [])) 43 (.tup [])) h R) (wS fs out b o19_17_2 (upd (upd t 42 (.tup [])) 43 (.tup [])) h R) := wS_grpE rfl
def o19_17 : List (Nat × AOper) := (0, ⟨some 39, .mov (.t 5), none⟩) ::
   (1, ⟨some 40, .bin .lss (.t 39) (.k (.v (.one (.int .i64 0)))), none⟩) ::
   (2, ⟨some 41, .mov (.t 40), none⟩) ::
   o19_17_1
theorem h19_17 : wS fs out b o19_17 t h R = (wV fs out (b + 0) noT h (.mov (.k (t 5))) fun x39_0 h => wV fs out (b + 1) noT h (.bin .lss (.k x39_0) (.k (.v (.one (.int .i64 0))))) fun x40_1 h => wV fs out (b + 2) noT h (.mov (.k x40_1)) fun x41_2 h => wS fs out b o19_17_1 (upd (upd (upd t 39 x39_0) 40 x40_1) 41 x41_2) h R) := by kernel_rfl
def c19_17 : ACode := .region (o19_17.map (·.2)) [0, 1, 2, 3, 4, 5] []
theorem s19_17 (h : wS fs out s.h.nx o19_17 s.t ⟨s.h.o, s.h.nx + 6⟩ (Q .normal)) : wC fs out c19_17 s Q := wC_region rfl rfl h
def o19_20 : List (Nat × AOper) := (0, ⟨some 45, .build [(.int .i64 0), (.int .i64 0), (.int .i64 0)] [(0, 1, (.k (.v (.one (.int .i64 1)))))], none⟩) ::
   (1, ⟨none, .store 3 (.t 4) (.t 45), none⟩) ::
   []
theorem h19_20 : wS fs out b o19_20 t h R = (wV fs out (b + 0) noT h (.build [(.int .i64 0), (.int .i64 0), (.int .i64 0)] [(0, 1, (.k (.v (.one (.int .i64 1)))))]) fun x45_0 h => wV fs out (b + 1) noT h (.store 3 (.k (t 4)) (.k x45_0)) fun _ h => R ⟨(upd t 45 x45_0), h⟩) := by kernel_rfl
def c19_20 : ACode := .region (o19_20.map (·.2)) [0, 1] []
theorem s19_20 (h : wS fs out s.h.nx o19_20 s.t ⟨s.h.o, s.h.nx + 2⟩ (Q .normal)) : wC fs out c19_20 s Q := wC_region rfl rfl h
def c19_19 : ACode := .seq c19_20 .ret
theorem s19_19 (h : wS fs out s.h.nx o19_20 s.t ⟨s.h.o, s.h.nx + 2⟩ fun s1 => wC fs out .ret s1 Q) : wC fs out c19_19 s Q := wC_seq (s19_20 h)
def c19_18 : ACode := .cond (.t 44) c19_19 .skip [2, 3, 4, 5]
theorem s19_18 (h : onC (s.t 44) (wC fs out c19_19 s fun e s1 => Q e (keepOnly [2, 3, 4, 5] s1)) (Q .normal (keepOnly [2, 3, 4, 5] s))) : wC fs out c19_18 s Q := wC_condC (by first | exact h | (simp only [wC_skip, wC_exit, wC_ret]; exact h))
def c19_16 : ACode := .seq c19_17 c19_18
theorem s19_16 (h : wS fs out s.h.nx o19_17 s.t ⟨s.h.o, s.h.nx + 6⟩ fun s1 => wC fs out c19_18 s1 Q) : wC fs out c19_16 s Q := wC_seq (s19_17 h)
def o19_23_4 : List (Nat × AOper) := (11, ⟨some 57, .pick (.t 54) (.t 56) (.k (.v (.one (.bool false)))), none⟩) ::
   []
theorem h19_23_4 : wS fs out b o19_23_4 t h R = (wV fs out (b + 11) noT h (.pick (.k (t 54)) (.k (t 56)) (.k (.v (.one (.bool false))))) fun x57_0 h => R ⟨(upd t 57 x57_0), h⟩) := by kernel_rfl
def o19_23_3g : List (Nat × AOper) := (9, ⟨some 55, .mov (.t 5), none⟩) ::
   (10, ⟨some 56, .bin .eql (.t 55) (.k (.v (.one (.int .i64 0)))), none⟩) ::
   []
theorem h19_23_3g : wS fs out b o19_23_3g t h R = (wV fs out (b + 9) noT h (.mov (.k (t 5))) fun x55_0 h => wV fs out (b + 10) noT h (.bin .eql (.k x55_0) (.k (.v (.one (.int .i64 0))))) fun x56_1 h => R ⟨(upd (upd t 55 x55_0) 56 x56_1), h⟩) := by kernel_rfl
def o19_23_3 : List (Nat × AOper) := grp 54 true o19_23_3g o19_23_4
theorem w19_23_3 : wS fs out b o19_23_3 t h R = onG (t 54) true (wS fs out b o19_23_3g (upd t 54 (.v (.one (.bool true)))) h fun s => wS fs out b o19_23_4 s.t s.h R) (wS fs out b o19_23_4 (upd (upd (upd t 54 (.v (.one (.bool false)))) 55 (.tup [])) 56 (.tup [])) h R) (wS fs out b o19_23_4 (upd (upd t 55 (.tup [])) 56 (.tup [])) h R) := wS_grpE rfl
def o19_23_2 : List (Nat × AOper) := (7, ⟨some 53, .pick (.t 49) (.t 52) (.k (.v (.one (.bool false)))), none⟩) ::
   (8, ⟨some 54, .mov (.t 53), none⟩) ::
   o19_23_3
theorem h19_23_2 : wS fs out b o19_23_2 t h R = (wV fs out (b + 7) noT h (.pick (.k (t 49)) (.k (t 52)) (.k (.v (.one (.bool false))))) fun x53_0 h => wV fs out (b + 8) noT h (.mov (.k x53_0)) fun x54_1 h => wS fs out b o19_23_3 (upd (upd t 53 x53_0) 54 x54_1) h R) := by kernel_rfl
def o19_23_1g : List (Nat × AOper) := (4, ⟨some 50, .fadr 1 (.t 3), none⟩) ::
   (5, ⟨some 51, .load none (.t 50), none⟩) ::
   (6, ⟨some 52, .not (.t 51), none⟩) ::
   []
theorem h19_23_1g : wS fs out b o19_23_1g t h R = (wV fs out (b + 4) noT h (.fadr 1 (.k (t 3))) fun x50_0 h => wV fs out (b + 5) noT h (.load none (.k x50_0)) fun x51_1 h => wV fs out (b + 6) noT h (.not (.k x51_1)) fun x52_2 h => R ⟨(upd (upd (upd t 50 x50_0) 51 x51_1) 52 x52_2), h⟩) := by kernel_rfl
def o19_23_1 : List (Nat × AOper) := grp 49 true o19_23_1g o19_23_2
theorem w19_23_1 : wS fs out b o19_23_1 t h R = onG (t 49) true (wS fs out b o19_23_1g (upd t 49 (.v (.one (.bool true)))) h fun s => wS fs out b o19_23_2 s.t s.h R) (wS fs out b o19_23_2 (upd (upd (upd (upd t 49 (.v (.one (.bool false)))) 50 (.tup [])) 51 (.tup [])) 52 (.tup [])) h R) (wS fs out b o19_23_2 (upd (upd (upd t 50 (.tup [])) 51 (.tup [])) 52 (.tup [])) h R) := wS_grpE rfl
def o19_23 : List (Nat × AOper) := (0, ⟨some 46, .fadr 0 (.t 2), none⟩) ::
   (1, ⟨some 47, .load none (.t 46), none⟩) ::
   (2, ⟨some 48, .bin .eql (.t 47) (.k (.v (.one (.int .i64 2)))), none⟩) ::
   (3, ⟨some 49, .mov (.t 48), none⟩) ::
   o19_23_1
theorem h19_23 : wS fs out b o19_23 t h R = (wV fs out (b + 0) noT h (.fadr 0 (.k (t 2))) fun x46_0 h => wV fs out (b + 1) noT h (.load none (.k x46_0)) fun x47_1 h => wV fs out (b + 2) noT h (.bin .eql (.k x47_1) (.k (.v (.one (.int .i64 2))))) fun x48_2 h => wV fs out (b + 3) noT h (.mov (.k x48_2)) fun x49_3 h => wS fs out b o19_23_1 (upd (upd (upd (upd t 46 x46_0) 47 x47_1) 48 x48_2) 49 x49_3) h R) := by kernel_rfl
def c19_23 : ACode := .region (o19_23.map (·.2)) [0, 1, 2, 3, 4, 5, 6, 7, 8, 9, 10, 11] []
theorem s19_23 (h : wS fs out s.h.nx o19_23 s.t ⟨s.h.o, s.h.nx + 12⟩ (Q .normal)) : wC fs out c19_23 s Q := wC_region rfl rfl h
def o19_26 : List (Nat × AOper) := (0, ⟨some 58, .build [(.int .i64 0), (.int .i64 0), (.int .i64 0)] [(0, 1, (.k (.v (.one (.int .i64 0)))))], none⟩) ::
   (1, ⟨none, .store 3 (.t 4) (.t 58), none⟩) ::
   []
theorem h19_26 : wS fs out b o19_26 t h R = (wV fs out (b + 0) noT h (.build [(.int .i64 0), (.int .i64 0), (.int .i64 0)] [(0, 1, (.k (.v (.one (.int .i64 0)))))]) fun x58_0 h => wV fs out (b + 1) noT h (.store 3 (.k (t 4)) (.k x58_0)) fun _ h => R ⟨(upd t 58 x58_0), h⟩) := by kernel_rfl
def c19_26 : ACode := .region (o19_26.map (·.2)) [0, 1] []
theorem s19_26 (h : wS fs out s.h.nx o19_26 s.t ⟨s.h.o, s.h.nx + 2⟩ (Q .normal)) : wC fs out c19_26 s Q := wC_region rfl rfl h
def c19_25 : ACode := .seq c19_26 .ret
theorem s19_25 (h : wS fs out s.h.nx o19_26 s.t ⟨s.h.o, s.h.nx + 2⟩ fun s1 => wC fs out .ret s1 Q) : wC fs out c19_25 s Q := wC_seq (s19_26 h)
def c19_24 : ACode := .cond (.t 57) c19_25 .skip [2, 4, 5]
theorem s19_24 (h : onC (s.t 57) (wC fs out c19_25 s fun e s1 => Q e (keepOnly [2, 4, 5] s1)) (Q .normal (keepOnly [2, 4, 5] s))) : wC fs out c19_24 s Q := wC_condC (by first | exact h | (simp only [wC_skip, wC_exit, wC_ret]; exact h))
def c19_22 : ACode := .seq c19_23 c19_24
theorem s19_22 (h : wS fs out s.h.nx o19_23 s.t ⟨s.h.o, s.h.nx + 12⟩ fun s1 => wC fs out c19_24 s1 Q) : wC fs out c19_22 s Q := wC_seq (s19_23 h)
def o19_28 : List (Nat × AOper) := (0, ⟨some 59, .fadr 0 (.t 2), none⟩) ::
   (1, ⟨some 60, .load none (.t 59), none⟩) ::
   (2, ⟨some 61, .mov (.t 5), none⟩) ::
   (3, ⟨some 62, .mov (.t 5), none⟩) ::
   (4, ⟨some 63, .build [(.int .i64 0), (.int .i64 0), (.int .i64 0)] [(0, 1, (.t 60)), (1, 1, (.t 61)), (2, 1, (.t 62))], none⟩) ::
   (5, ⟨none, .store 3 (.t 4) (.t 63), none⟩) ::
   []
theorem h19_28 : wS fs out b o19_28 t h R = (wV fs out (b + 0) noT h (.fadr 0 (.k (t 2))) fun x59_0 h => wV fs out (b + 1) noT h (.load none (.k x59_0)) fun x60_1 h => wV fs out (b + 2) noT h (.mov (.k (t 5))) fun x61_2 h => wV fs out (b + 3) noT h (.mov (.k (t 5))) fun x62_3 h => wV fs out (b + 4) noT h (.build [(.int .i64 0), (.int .i64 0), (.int .i64 0)] [(0, 1, (.k x60_1)), (1, 1, (.k x61_2)), (2, 1, (.k x62_3))]) fun x63_4 h => wV fs out (b + 5) noT h (.store 3 (.k (t 4)) (.k x63_4)) fun _ h => R ⟨(upd (upd (upd (upd (upd t 59 x59_0) 60 x60_1) 61 x61_2) 62 x62_3) 63 x63_4), h⟩) := by kernel_rfl
def c19_28 : ACode := .region (o19_28.map (·.2)) [0, 1, 2, 3, 4, 5] []
theorem s19_28 (h : wS fs out s.h.nx o19_28 s.t ⟨s.h.o, s.h.nx + 6⟩ (Q .normal)) : wC fs out c19_28 s Q := wC_region rfl rfl h
def c19_27 : ACode := .seq c19_28 .ret
theorem s19_27 (h : wS fs out s.h.nx o19_28 s.t ⟨s.h.o, s.h.nx + 6⟩ fun s1 => wC fs out .ret s1 Q) : wC fs out c19_27 s Q := wC_seq (s19_28 h)
def c19_21 : ACode := .seq c19_22 c19_27
theorem s19_21 (h : wC fs out c19_22 s fun e s1 => match e with | .normal => wC fs out c19_27 s1 Q | e => Q e s1) : wC fs out c19_21 s Q := wC_seq h
def c19_15 : ACode := .seq c19_16 c19_21
theorem s19_15 (h : wC fs out c19_16 s fun e s1 => match e with | .normal => wC fs out c19_21 s1 Q | e => Q e s1) : wC fs out c19_15 s Q := wC_seq h
def c19_10 : ACode := .seq c19_11 c19_15
theorem s19_10 (h : wC fs out c19_11 s fun e s1 => match e with | .normal => wC fs out c19_15 s1 Q | e => Q e s1) : wC fs out c19_10 s Q := wC_seq h
def c19_8 : ACode := .seq c19_9 c19_10
theorem s19_8 (h : wS fs out s.h.nx o19_9 s.t ⟨s.h.o, s.h.nx + 6⟩ fun s1 => wC fs out c19_10 s1 Q) : wC fs out c19_8 s Q := wC_seq (s19_9 h)
def c19_2 : ACode := .seq c19_3 c19_8
theorem s19_2 (h : wC fs out c19_3 s fun e s1 => match e with | .normal => wC fs out c19_8 s1 Q | e => Q e s1) : wC fs out c19_2 s Q := wC_seq h
def c19_0 : ACode := .seq c19_1 c19_2
theorem s19_0 (h : wS fs out s.h.nx o19_1 s.t ⟨s.h.o, s.h.nx + 3⟩ fun s1 => wC fs out c19_2 s1 Q) : wC fs out c19_0 s Q := wC_seq (s19_1 h)
def a19 : AFunc := ⟨2, [4], some (some 3), c19_0⟩
theorem t19 : tell Try.prog Try.f19 [([2, 3, 4], [], []), ([2, 3, 4, 5], [], []), ([2, 3, 4, 5], [], []), ([2, 4, 5], [], [])] = some a19 := by kernel_rfl
theorem ok19 : FuncOk Try.prog 19 a19 := tell_ok Try.func19 t19

/-- railplan/railplanref30.Report -/
def o20_1 : List (Nat × AOper) := (0, ⟨some 1, .box 26 3 (.t 0), none⟩) ::
   (1, ⟨some 2, .mov (.k (.v (.one (.int .i64 0)))), none⟩) ::
   []
theorem h20_1 : wS fs out b o20_1 t h R = (wV fs out (b + 0) noT h (.box 26 3 (.k (t 0))) fun x1_0 h => wV fs out (b + 1) noT h (.mov (.k (.v (.one (.int .i64 0))))) fun x2_1 h => R ⟨(upd (upd t 1 x1_0) 2 x2_1), h⟩) := by kernel_rfl
def c20_1 : ACode := .region (o20_1.map (·.2)) [0, 1] []
theorem s20_1 (h : wS fs out s.h.nx o20_1 s.t ⟨s.h.o, s.h.nx + 2⟩ (Q .normal)) : wC fs out c20_1 s Q := wC_region rfl rfl h
def o20_4_2 : List (Nat × AOper) := (7, ⟨some 10, .pick (.t 6) (.k (.v (.one (.bool true)))) (.t 9), none⟩) ::
   []
theorem h20_4_2 : wS fs out b o20_4_2 t h R = (wV fs out (b + 7) noT h (.pick (.k (t 6)) (.k (.v (.one (.bool true)))) (.k (t 9))) fun x10_0 h => R ⟨(upd t 10 x10_0), h⟩) := by kernel_rfl
def o20_4_1g_1 : List (Nat × AOper) := (6, ⟨some 9, .not (.t 8), none⟩) ::
   []
theorem h20_4_1g_1 : wS fs out b o20_4_1g_1 t h R = (wV fs out (b + 6) noT h (.not (.k (t 8))) fun x9_0 h => R ⟨(upd t 9 x9_0), h⟩) := by kernel_rfl
def o20_4_1g : List (Nat × AOper) := (4, ⟨some 7, .load (some 3) (.t 1), none⟩) ::
   (5, ⟨some 8, .call 28 [(.t 7)], none⟩) ::
   o20_4_1g_1
theorem h20_4_1g : wS fs out b o20_4_1g t h R = (wV fs out (b + 4) noT h (.load (some 3) (.k (t 1))) fun x7_0 h => wV fs out (b + 5) noT h (.call 28 [(.k x7_0)]) fun x8_1 h => wS fs out b o20_4_1g_1 (upd (upd t 7 x7_0) 8 x8_1) h R) := by kernel_rfl
def o20_4_1 : List (Nat × AOper) := grp 6 false o20_4_1g o20_4_2
theorem w20_4_1 : wS fs out b o20_4_1 t h R = onG (t 6) false (wS fs out b o20_4_1g (upd t 6 (.v (.one (.bool false)))) h fun s => wS fs out b o20_4_2 s.t s.h R) (wS fs out b o20_4_2 (upd (upd (upd (upd t 6 (.v (.one (.bool true)))) 7 (.tup [])) 8 (.tup [])) 9 (.tup [])) h R) (wS fs out b o20_4_2 (upd (upd (upd t 7 (.tup [])) 8 (.tup [])) 9 (.tup [])) h R) := wS_grpE rfl
def o20_4 : List (Nat × AOper) := (0, ⟨some 3, .fadr 0 (.t 1), none⟩) ::
   (1, ⟨some 4, .load none (.t 3), none⟩) ::
   (2, ⟨some 5, .bin .neq (.t 4) (.k (.v (.one (.int .i64 0)))), none⟩) ::
   (3, ⟨some 6, .mov (.t 5), none⟩) ::
   o20_4_1
theorem h20_4 : wS fs out b o20_4 t h R = (wV fs out (b + 0) noT h (.fadr 0 (.k (t 1))) fun x3_0 h => wV fs out (b + 1) noT h (.load none (.k x3_0)) fun x4_1 h => wV fs out (b + 2) noT h (.bin .neq (.k x4_1) (.k (.v (.one (.int .i64 0))))) fun x5_2 h => wV fs out (b + 3) noT h (.mov (.k x5_2)) fun x6_3 h => wS fs out b o20_4_1 (upd (upd (upd (upd t 3 x3_0) 4 x4_1) 5 x5_2) 6 x6_3) h R) := by kernel_rfl
def c20_4 : ACode := .region (o20_4.map (·.2)) [0, 1, 2, 3, 4, 5, 6, 7] []
theorem s20_4 (h : wS fs out s.h.nx o20_4 s.t ⟨s.h.o, s.h.nx + 8⟩ (Q .normal)) : wC fs out c20_4 s Q := wC_region rfl rfl h
def o20_7 : List (Nat × AOper) := (0, ⟨some 2, .mov (.k (.v (.one (.int .i64 2)))), none⟩) ::
   []
theorem h20_7 : wS fs out b o20_7 t h R = (wV fs out (b + 0) noT h (.mov (.k (.v (.one (.int .i64 2))))) fun x2_0 h => R ⟨(upd t 2 x2_0), h⟩) := by kernel_rfl
def c20_7 : ACode := .region (o20_7.map (·.2)) [0] []
theorem s20_7 (h : wS fs out s.h.nx o20_7 s.t ⟨s.h.o, s.h.nx + 1⟩ (Q .normal)) : wC fs out c20_7 s Q := wC_region rfl rfl h
def c20_6 : ACode := .seq c20_7 .ret
theorem s20_6 (h : wS fs out s.h.nx o20_7 s.t ⟨s.h.o, s.h.nx + 1⟩ fun s1 => wC fs out .ret s1 Q) : wC fs out c20_6 s Q := wC_seq (s20_7 h)
def c20_5 : ACode := .cond (.t 10) c20_6 .skip [1, 2]
theorem s20_5 (h : onC (s.t 10) (wC fs out c20_6 s fun e s1 => Q e (keepOnly [1, 2] s1)) (Q .normal (keepOnly [1, 2] s))) : wC fs out c20_5 s Q := wC_condC (by first | exact h | (simp only [wC_skip, wC_exit, wC_ret]; exact h))
def c20_3 : ACode := .seq c20_4 c20_5
theorem s20_3 (h : wS fs out s.h.nx o20_4 s.t ⟨s.h.o, s.h.nx + 8⟩ fun s1 => wC fs out c20_5 s1 Q) : wC fs out c20_3 s Q := wC_seq (s20_4 h)
def o20_10 : List (Nat × AOper) := (0, ⟨some 11, .fadr 1 (.t 1), none⟩) ::
   (1, ⟨some 12, .load none (.t 11), none⟩) ::
   (2, ⟨some 13, .bin .eql (.t 12) (.k (.v (.one (.int .i64 0)))), none⟩) ::
   []
theorem h20_10 : wS fs out b o20_10 t h R = (wV fs out (b + 0) noT h (.fadr 1 (.k (t 1))) fun x11_0 h => wV fs out (b + 1) noT h (.load none (.k x11_0)) fun x12_1 h => wV fs out (b + 2) noT h (.bin .eql (.k x12_1) (.k (.v (.one (.int .i64 0))))) fun x13_2 h => R ⟨(upd (upd (upd t 11 x11_0) 12 x12_1) 13 x13_2), h⟩) := by kernel_rfl
def c20_10 : ACode := .region (o20_10.map (·.2)) [0, 1, 2] []
theorem s20_10 (h : wS fs out s.h.nx o20_10 s.t ⟨s.h.o, s.h.nx + 3⟩ (Q .normal)) : wC fs out c20_10 s Q := wC_region rfl rfl h
def o20_13 : List (Nat × AOper) := (0, ⟨some 2, .mov (.k (.v (.one (.int .i64 0)))), none⟩) ::
   []
theorem h20_13 : wS fs out b o20_13 t h R = (wV fs out (b + 0) noT h (.mov (.k (.v (.one (.int .i64 0))))) fun x2_0 h => R ⟨(upd t 2 x2_0), h⟩) := by kernel_rfl
def c20_13 : ACode := .region (o20_13.map (·.2)) [0] []
theorem s20_13 (h : wS fs out s.h.nx o20_13 s.t ⟨s.h.o, s.h.nx + 1⟩ (Q .normal)) : wC fs out c20_13 s Q := wC_region rfl rfl h
def c20_12 : ACode := .seq c20_13 .ret
theorem s20_12 (h : wS fs out s.h.nx o20_13 s.t ⟨s.h.o, s.h.nx + 1⟩ fun s1 => wC fs out .ret s1 Q) : wC fs out c20_12 s Q := wC_seq (s20_13 h)
def c20_11 : ACode := .cond (.t 13) c20_12 .skip [2]
theorem s20_11 (h : onC (s.t 13) (wC fs out c20_12 s fun e s1 => Q e (keepOnly [2] s1)) (Q .normal (keepOnly [2] s))) : wC fs out c20_11 s Q := wC_condC (by first | exact h | (simp only [wC_skip, wC_exit, wC_ret]; exact h))
def c20_9 : ACode := .seq c20_10 c20_11
theorem s20_9 (h : wS fs out s.h.nx o20_10 s.t ⟨s.h.o, s.h.nx + 3⟩ fun s1 => wC fs out c20_11 s1 Q) : wC fs out c20_9 s Q := wC_seq (s20_10 h)
def o20_15 : List (Nat × AOper) := (0, ⟨some 2, .mov (.k (.v (.one (.int .i64 1)))), none⟩) ::
   []
theorem h20_15 : wS fs out b o20_15 t h R = (wV fs out (b + 0) noT h (.mov (.k (.v (.one (.int .i64 1))))) fun x2_0 h => R ⟨(upd t 2 x2_0), h⟩) := by kernel_rfl
def c20_15 : ACode := .region (o20_15.map (·.2)) [0] []
theorem s20_15 (h : wS fs out s.h.nx o20_15 s.t ⟨s.h.o, s.h.nx + 1⟩ (Q .normal)) : wC fs out c20_15 s Q := wC_region rfl rfl h
def c20_14 : ACode := .seq c20_15 .ret
theorem s20_14 (h : wS fs out s.h.nx o20_15 s.t ⟨s.h.o, s.h.nx + 1⟩ fun s1 => wC fs out .ret s1 Q) : wC fs out c20_14 s Q := wC_seq (s20_15 h)
def c20_8 : ACode := .seq c20_9 c20_14
theorem s20_8 (h : wC fs out c20_9 s fun e s1 => match e with | .normal => wC fs out c20_14 s1 Q | e => Q e s1) : wC fs out c20_8 s Q := wC_seq h
def c20_2 : ACode := .seq c20_3 c20_8
theorem s20_2 (h : wC fs out c20_3 s fun e s1 => match e with | .normal => wC fs out c20_8 s1 Q | e => Q e s1) : wC fs out c20_2 s Q := wC_seq h
def c20_0 : ACode := .seq c20_1 c20_2
theorem s20_0 (h : wS fs out s.h.nx o20_1 s.t ⟨s.h.o, s.h.nx + 2⟩ fun s1 => wC fs out c20_2 s1 Q) : wC fs out c20_0 s Q := wC_seq (s20_1 h)
def a20 : AFunc := ⟨1, [2], none, c20_0⟩
theorem t20 : tell Try.prog Try.f20 [([1, 2], [], []), ([2], [], [])] = some a20 := by kernel_rfl
theorem ok20 : FuncOk Try.prog 20 a20 := tell_ok Try.func20 t20

/-- railplan/railplanref30.Reset -/
def o21_1 : List (Nat × AOper) := (0, ⟨some 1, .box 26 3 (.t 0), none⟩) ::
   (1, ⟨some 2, .new 26 [(.int .i64 0), (.int .i64 0), (.int .i64 0)], none⟩) ::
   []
theorem h21_1 : wS fs out b o21_1 t h R = (wV fs out (b + 0) noT h (.box 26 3 (.k (t 0))) fun x1_0 h => wV fs out (b + 1) noT h (.new 26 [(.int .i64 0), (.int .i64 0), (.int .i64 0)]) fun x2_1 h => R ⟨(upd (upd t 1 x1_0) 2 x2_1), h⟩) := by kernel_rfl
def c21_1 : ACode := .region (o21_1.map (·.2)) [0, 1] []
theorem s21_1 (h : wS fs out s.h.nx o21_1 s.t ⟨s.h.o, s.h.nx + 2⟩ (Q .normal)) : wC fs out c21_1 s Q := wC_region rfl rfl h
def o21_4_1 : List (Nat × AOper) := (2, ⟨some 5, .not (.t 4), none⟩) ::
   []
theorem h21_4_1 : wS fs out b o21_4_1 t h R = (wV fs out (b + 2) noT h (.not (.k (t 4))) fun x5_0 h => R ⟨(upd t 5 x5_0), h⟩) := by kernel_rfl
def o21_4 : List (Nat × AOper) := (0, ⟨some 3, .load (some 3) (.t 1), none⟩) ::
   (1, ⟨some 4, .call 28 [(.t 3)], none⟩) ::
   o21_4_1
theorem h21_4 : wS fs out b o21_4 t h R = (wV fs out (b + 0) noT h (.load (some 3) (.k (t 1))) fun x3_0 h => wV fs out (b + 1) noT h (.call 28 [(.k x3_0)]) fun x4_1 h => wS fs out b o21_4_1 (upd (upd t 3 x3_0) 4 x4_1) h R) := by kernel_rfl
def c21_4 : ACode := .region (o21_4.map (·.2)) [0, 1, 2] []
theorem s21_4 (h : wS fs out s.h.nx o21_4 s.t ⟨s.h.o, s.h.nx + 3⟩ (Q .normal)) : wC fs out c21_4 s Q := wC_region rfl rfl h
def o21_7 : List (Nat × AOper) := (0, ⟨some 6, .build [(.int .i64 0), (.int .i64 0), (.int .i64 0)] [(0, 1, (.k (.v (.one (.int .i64 2)))))], none⟩) ::
   (1, ⟨none, .store 3 (.t 2) (.t 6), none⟩) ::
   []
theorem h21_7 : wS fs out b o21_7 t h R = (wV fs out (b + 0) noT h (.build [(.int .i64 0), (.int .i64 0), (.int .i64 0)] [(0, 1, (.k (.v (.one (.int .i64 2)))))]) fun x6_0 h => wV fs out (b + 1) noT h (.store 3 (.k (t 2)) (.k x6_0)) fun _ h => R ⟨(upd t 6 x6_0), h⟩) := by kernel_rfl
def c21_7 : ACode := .region (o21_7.map (·.2)) [0, 1] []
theorem s21_7 (h : wS fs out s.h.nx o21_7 s.t ⟨s.h.o, s.h.nx + 2⟩ (Q .normal)) : wC fs out c21_7 s Q := wC_region rfl rfl h
def c21_6 : ACode := .seq c21_7 .ret
theorem s21_6 (h : wS fs out s.h.nx o21_7 s.t ⟨s.h.o, s.h.nx + 2⟩ fun s1 => wC fs out .ret s1 Q) : wC fs out c21_6 s Q := wC_seq (s21_7 h)
def c21_5 : ACode := .cond (.t 5) c21_6 .skip [1, 2]
theorem s21_5 (h : onC (s.t 5) (wC fs out c21_6 s fun e s1 => Q e (keepOnly [1, 2] s1)) (Q .normal (keepOnly [1, 2] s))) : wC fs out c21_5 s Q := wC_condC (by first | exact h | (simp only [wC_skip, wC_exit, wC_ret]; exact h))
def c21_3 : ACode := .seq c21_4 c21_5
theorem s21_3 (h : wS fs out s.h.nx o21_4 s.t ⟨s.h.o, s.h.nx + 3⟩ fun s1 => wC fs out c21_5 s1 Q) : wC fs out c21_3 s Q := wC_seq (s21_4 h)
def o21_9 : List (Nat × AOper) := (0, ⟨some 7, .load (some 3) (.t 1), none⟩) ::
   (1, ⟨none, .store 3 (.t 2) (.t 7), none⟩) ::
   []
theorem h21_9 : wS fs out b o21_9 t h R = (wV fs out (b + 0) noT h (.load (some 3) (.k (t 1))) fun x7_0 h => wV fs out (b + 1) noT h (.store 3 (.k (t 2)) (.k x7_0)) fun _ h => R ⟨(upd t 7 x7_0), h⟩) := by kernel_rfl
def c21_9 : ACode := .region (o21_9.map (·.2)) [0, 1] []
theorem s21_9 (h : wS fs out s.h.nx o21_9 s.t ⟨s.h.o, s.h.nx + 2⟩ (Q .normal)) : wC fs out c21_9 s Q := wC_region rfl rfl h
def c21_8 : ACode := .seq c21_9 .ret
theorem s21_8 (h : wS fs out s.h.nx o21_9 s.t ⟨s.h.o, s.h.nx + 2⟩ fun s1 => wC fs out .ret s1 Q) : wC fs out c21_8 s Q := wC_seq (s21_9 h)
def c21_2 : ACode := .seq c21_3 c21_8
theorem s21_2 (h : wC fs out c21_3 s fun e s1 => match e with | .normal => wC fs out c21_8 s1 Q | e => Q e s1) : wC fs out c21_2 s Q := wC_seq h
def c21_0 : ACode := .seq c21_1 c21_2
theorem s21_0 (h : wS fs out s.h.nx o21_1 s.t ⟨s.h.o, s.h.nx + 2⟩ fun s1 => wC fs out c21_2 s1 Q) : wC fs out c21_0 s Q := wC_seq (s21_1 h)
def a21 : AFunc := ⟨1, [2], some (some 3), c21_0⟩
theorem t21 : tell Try.prog Try.f21 [([1, 2], [], [])] = some a21 := by kernel_rfl
theorem ok21 : FuncOk Try.prog 21 a21 := tell_ok Try.func21 t21

/-- railplan/railplanlaw31.pulses -/
def o22_1 : List (Nat × AOper) := (0, ⟨some 2, .mov (.k (.v (.one .nils))), none⟩) ::
   []
theorem h22_1 : wS fs out b o22_1 t h R = (wV fs out (b + 0) noT h (.mov (.k (.v (.one .nils)))) fun x2_0 h => R ⟨(upd t 2 x2_0), h⟩) := by kernel_rfl
def c22_1 : ACode := .region (o22_1.map (·.2)) [0] []
theorem s22_1 (h : wS fs out s.h.nx o22_1 s.t ⟨s.h.o, s.h.nx + 1⟩ (Q .normal)) : wC fs out c22_1 s Q := wC_region rfl rfl h
def o22_3_1 : List (Nat × AOper) := (2, ⟨some 3, .mov (.t 8), none⟩) ::
   []
theorem h22_3_1 : wS fs out b o22_3_1 t h R = (wV fs out (b + 2) noT h (.mov (.k (t 8))) fun x3_0 h => R ⟨(upd t 3 x3_0), h⟩) := by kernel_rfl
def o22_3 : List (Nat × AOper) := (0, ⟨some 7, .mov (.t 0), none⟩) ::
   (1, ⟨some 8, .call 11 [(.t 7)], none⟩) ::
   o22_3_1
theorem h22_3 : wS fs out b o22_3 t h R = (wV fs out (b + 0) noT h (.mov (.k (t 0))) fun x7_0 h => wV fs out (b + 1) noT h (.call 11 [(.k x7_0)]) fun x8_1 h => wS fs out b o22_3_1 (upd (upd t 7 x7_0) 8 x8_1) h R) := by kernel_rfl
def c22_3 : ACode := .region (o22_3.map (·.2)) [0, 1, 2] []
theorem s22_3 (h : wS fs out s.h.nx o22_3 s.t ⟨s.h.o, s.h.nx + 3⟩ (Q .normal)) : wC fs out c22_3 s Q := wC_region rfl rfl h
def o22_5 : List (Nat × AOper) := (0, ⟨some 4, .mov (.k (.v (.one .nils))), none⟩) ::
   []
theorem h22_5 : wS fs out b o22_5 t h R = (wV fs out (b + 0) noT h (.mov (.k (.v (.one .nils)))) fun x4_0 h => R ⟨(upd t 4 x4_0), h⟩) := by kernel_rfl
def c22_5 : ACode := .region (o22_5.map (·.2)) [0] []
theorem s22_5 (h : wS fs out s.h.nx o22_5 s.t ⟨s.h.o, s.h.nx + 1⟩ (Q .normal)) : wC fs out c22_5 s Q := wC_region rfl rfl h
def o22_8_1 : List (Nat × AOper) := (2, ⟨some 5, .mov (.t 10), none⟩) ::
   []
theorem h22_8_1 : wS fs out b o22_8_1 t h R = (wV fs out (b + 2) noT h (.mov (.k (t 10))) fun x5_0 h => R ⟨(upd t 5 x5_0), h⟩) := by kernel_rfl
def o22_8 : List (Nat × AOper) := (0, ⟨some 9, .mov (.t 3), none⟩) ::
   (1, ⟨some 10, .call 13 [(.t 9), (.k (.v (.one (.int .i64 12))))], none⟩) ::
   o22_8_1
theorem h22_8 : wS fs out b o22_8 t h R = (wV fs out (b + 0) noT h (.mov (.k (t 3))) fun x9_0 h => wV fs out (b + 1) noT h (.call 13 [(.k x9_0), (.k (.v (.one (.int .i64 12))))]) fun x10_1 h => wS fs out b o22_8_1 (upd (upd t 9 x9_0) 10 x10_1) h R) := by kernel_rfl
def c22_8 : ACode := .region (o22_8.map (·.2)) [0, 1, 2] []
theorem s22_8 (h : wS fs out s.h.nx o22_8 s.t ⟨s.h.o, s.h.nx + 3⟩ (Q .normal)) : wC fs out c22_8 s Q := wC_region rfl rfl h
def o22_13 : List (Nat × AOper) := (0, ⟨some 11, .mov (.t 5), none⟩) ::
   (1, ⟨some 12, .bin .gtr (.t 11) (.k (.v (.one (.int .i64 0)))), none⟩) ::
   []
theorem h22_13 : wS fs out b o22_13 t h R = (wV fs out (b + 0) noT h (.mov (.k (t 5))) fun x11_0 h => wV fs out (b + 1) noT h (.bin .gtr (.k x11_0) (.k (.v (.one (.int .i64 0))))) fun x12_1 h => R ⟨(upd (upd t 11 x11_0) 12 x12_1), h⟩) := by kernel_rfl
def c22_13 : ACode := .region (o22_13.map (·.2)) [0, 1] []
theorem s22_13 (h : wS fs out s.h.nx o22_13 s.t ⟨s.h.o, s.h.nx + 2⟩ (Q .normal)) : wC fs out c22_13 s Q := wC_region rfl rfl h
def c22_14 : ACode := .cond (.t 12) .skip (.exit 0) [3, 4, 5]
theorem s22_14 (h : onC (s.t 12) (Q .normal (keepOnly [3, 4, 5] s)) (Q (.exit 0) (keepOnly [3, 4, 5] s))) : wC fs out c22_14 s Q := wC_condC (by first | exact h | (simp only [wC_skip, wC_exit, wC_ret]; exact h))
def c22_12 : ACode := .seq c22_13 c22_14
theorem s22_12 (h : wS fs out s.h.nx o22_13 s.t ⟨s.h.o, s.h.nx + 2⟩ fun s1 => wC fs out c22_14 s1 Q) : wC fs out c22_12 s Q := wC_seq (s22_13 h)
def o22_18_3 : List (Nat × AOper) := (7, ⟨some 22, .bin .add (.k (.v (.one (.int .i64 1)))) (.t 21), none⟩) ::
   (8, ⟨some 23, .build [(.int .i64 0), (.bool false), (.int .i64 0), (.int .i64 0)] [(0, 1, (.t 16)), (1, 1, (.t 19)), (2, 1, (.t 22))], none⟩) ::
   (9, ⟨some 6, .new 31 [(.int .i64 0), (.bool false), (.int .i64 0), (.int .i64 0)], none⟩) ::
   (10, ⟨none, .store 4 (.t 6) (.t 23), none⟩) ::
   []
theorem h22_18_3 : wS fs out b o22_18_3 t h R = (wV fs out (b + 7) noT h (.bin .add (.k (.v (.one (.int .i64 1)))) (.k (t 21))) fun x22_0 h => wV fs out (b + 8) noT h (.build [(.int .i64 0), (.bool false), (.int .i64 0), (.int .i64 0)] [(0, 1, (.k (t 16))), (1, 1, (.k (t 19))), (2, 1, (.k x22_0))]) fun x23_1 h => wV fs out (b + 9) noT h (.new 31 [(.int .i64 0), (.bool false), (.int .i64 0), (.int .i64 0)]) fun x6_2 h => wV fs out (b + 10) noT h (.store 4 (.k x6_2) (.k x23_1)) fun _ h => R ⟨(upd (upd (upd t 22 x22_0) 23 x23_1) 6 x6_2), h⟩) := by kernel_rfl
def o22_18_2 : List (Nat × AOper) := (4, ⟨some 19, .bin .eql (.t 18) (.k (.v (.one (.int .i64 0)))), none⟩) ::
   (5, ⟨some 20, .mov (.t 3), none⟩) ::
   (6, ⟨some 21, .call 13 [(.t 20), (.k (.v (.one (.int .i64 3))))], none⟩) ::
   o22_18_3
theorem h22_18_2 : wS fs out b o22_18_2 t h R = (wV fs out (b + 4) noT h (.bin .eql (.k (t 18)) (.k (.v (.one (.int .i64 0))))) fun x19_0 h => wV fs out (b + 5) noT h (.mov (.k (t 3))) fun x20_1 h => wV fs out (b + 6) noT h (.call 13 [(.k x20_1), (.k (.v (.one (.int .i64 3))))]) fun x21_2 h => wS fs out b o22_18_3 (upd (upd (upd t 19 x19_0) 20 x20_1) 21 x21_2) h R) := by kernel_rfl
def o22_18_1 : List (Nat × AOper) := (2, ⟨some 17, .mov (.t 3), none⟩) ::
   (3, ⟨some 18, .call 13 [(.t 17), (.k (.v (.one (.int .i64 2))))], none⟩) ::
   o22_18_2
theorem h22_18_1 : wS fs out b o22_18_1 t h R = (wV fs out (b + 2) noT h (.mov (.k (t 3))) fun x17_0 h => wV fs out (b + 3) noT h (.call 13 [(.k x17_0), (.k (.v (.one (.int .i64 2))))]) fun x18_1 h => wS fs out b o22_18_2 (upd (upd t 17 x17_0) 18 x18_1) h R) := by kernel_rfl
def o22_18 : List (Nat × AOper) := (0, ⟨some 15, .mov (.t 3), none⟩) ::
   (1, ⟨some 16, .call 13 [(.t 15), (.k (.v (.one (.int .i64 3))))], none⟩) ::
   o22_18_1
theorem h22_18 : wS fs out b o22_18 t h R = (wV fs out (b + 0) noT h (.mov (.k (t 3))) fun x15_0 h => wV fs out (b + 1) noT h (.call 13 [(.k x15_0), (.k (.v (.one (.int .i64 3))))]) fun x16_1 h => wS fs out b o22_18_1 (upd (upd t 15 x15_0) 16 x16_1) h R) := by kernel_rfl
def c22_18 : ACode := .region (o22_18.map (·.2)) [0, 1, 2, 3, 4, 5, 6, 7, 8, 9, 10] []
theorem s22_18 (h : wS fs out s.h.nx o22_18 s.t ⟨s.h.o, s.h.nx + 11⟩ (Q .normal)) : wC fs out c22_18 s Q := wC_region rfl rfl h
def o22_20 : List (Nat × AOper) := (0, ⟨some 24, .fadr 2 (.t 6), none⟩) ::
   (1, ⟨some 25, .load none (.t 24), none⟩) ::
   (2, ⟨some 26, .fadr 3 (.t 6), none⟩) ::
   (3, ⟨none, .store 1 (.t 26) (.t 25), none⟩) ::
   []
theorem h22_20 : wS fs out b o22_20 t h R = (wV fs out (b + 0) noT h (.fadr 2 (.k (t 6))) fun x24_0 h => wV fs out (b + 1) noT h (.load none (.k x24_0)) fun x25_1 h => wV fs out (b + 2) noT h (.fadr 3 (.k (t 6))) fun x26_2 h => wV fs out (b + 3) noT h (.store 1 (.k x26_2) (.k x25_1)) fun _ h => R ⟨(upd (upd (upd t 24 x24_0) 25 x25_1) 26 x26_2), h⟩) := by kernel_rfl
def c22_20 : ACode := .region (o22_20.map (·.2)) [0, 1, 2, 3] []
theorem s22_20 (h : wS fs out s.h.nx o22_20 s.t ⟨s.h.o, s.h.nx + 4⟩ (Q .normal)) : wC fs out c22_20 s Q := wC_region rfl rfl h
def o22_23_1 : List (Nat × AOper) := (2, ⟨some 29, .bin .eql (.t 28) (.k (.v (.one (.int .i64 0)))), none⟩) ::
   []
theorem h22_23_1 : wS fs out b o22_23_1 t h R = (wV fs out (b + 2) noT h (.bin .eql (.k (t 28)) (.k (.v (.one (.int .i64 0))))) fun x29_0 h => R ⟨(upd t 29 x29_0), h⟩) := by kernel_rfl
def o22_23 : List (Nat × AOper) := (0, ⟨some 27, .mov (.t 3), none⟩) ::
   (1, ⟨some 28, .call 13 [(.t 27), (.k (.v (.one (.int .i64 8))))], none⟩) ::
   o22_23_1
theorem h22_23 : wS fs out b o22_23 t h R = (wV fs out (b + 0) noT h (.mov (.k (t 3))) fun x27_0 h => wV fs out (b + 1) noT h (.call 13 [(.k x27_0), (.k (.v (.one (.int .i64 8))))]) fun x28_1 h => wS fs out b o22_23_1 (upd (upd t 27 x27_0) 28 x28_1) h R) := by kernel_rfl
def c22_23 : ACode := .region (o22_23.map (·.2)) [0, 1, 2] []
theorem s22_23 (h : wS fs out s.h.nx o22_23 s.t ⟨s.h.o, s.h.nx + 3⟩ (Q .normal)) : wC fs out c22_23 s Q := wC_region rfl rfl h
def o22_25_1 : List (Nat × AOper) := (2, ⟨some 32, .fadr 3 (.t 6), none⟩) ::
   (3, ⟨none, .store 1 (.t 32) (.t 31), none⟩) ::
   []
theorem h22_25_1 : wS fs out b o22_25_1 t h R = (wV fs out (b + 2) noT h (.fadr 3 (.k (t 6))) fun x32_0 h => wV fs out (b + 3) noT h (.store 1 (.k x32_0) (.k (t 31))) fun _ h => R ⟨(upd t 32 x32_0), h⟩) := by kernel_rfl
def o22_25 : List (Nat × AOper) := (0, ⟨some 30, .mov (.t 3), none⟩) ::
   (1, ⟨some 31, .call 13 [(.t 30), (.k (.v (.one (.int .i64 4))))], none⟩) ::
   o22_25_1
theorem h22_25 : wS fs out b o22_25 t h R = (wV fs out (b + 0) noT h (.mov (.k (t 3))) fun x30_0 h => wV fs out (b + 1) noT h (.call 13 [(.k x30_0), (.k (.v (.one (.int .i64 4))))]) fun x31_1 h => wS fs out b o22_25_1 (upd (upd t 30 x30_0) 31 x31_1) h R) := by kernel_rfl
def c22_25 : ACode := .region (o22_25.map (·.2)) [0, 1, 2, 3] []
theorem s22_25 (h : wS fs out s.h.nx o22_25 s.t ⟨s.h.o, s.h.nx + 4⟩ (Q .normal)) : wC fs out c22_25 s Q := wC_region rfl rfl h
def c22_24 : ACode := .cond (.t 29) c22_25 .skip [3, 4, 5, 6]
theorem s22_24 (h : onC (s.t 29) (wC fs out c22_25 s fun e s1 => Q e (keepOnly [3, 4, 5, 6] s1)) (Q .normal (keepOnly [3, 4, 5, 6] s))) : wC fs out c22_24 s Q := wC_condC (by first | exact h | (simp only [wC_skip, wC_exit, wC_ret]; exact h))
def c22_22 : ACode := .seq c22_23 c22_24
theorem s22_22 (h : wS fs out s.h.nx o22_23 s.t ⟨s.h.o, s.h.nx + 3⟩ fun s1 => wC fs out c22_24 s1 Q) : wC fs out c22_22 s Q := wC_seq (s22_23 h)
def o22_26_1 : List (Nat × AOper) := (4, ⟨some 4, .mov (.t 36), none⟩) ::
   []
theorem h22_26_1 : wS fs out b o22_26_1 t h R = (wV fs out (b + 4) noT h (.mov (.k (t 36))) fun x4_0 h => R ⟨(upd t 4 x4_0), h⟩) := by kernel_rfl
def o22_26 : List (Nat × AOper) := (0, ⟨some 33, .mov (.t 4), none⟩) ::
   (1, ⟨some 34, .load (some 4) (.t 6), none⟩) ::
   (2, ⟨some 35, .bsl 31 4 1 [(.int .i64 0), (.bool false), (.int .i64 0), (.int .i64 0)] [(0, 4, (.t 34))], none⟩) ::
   (3, ⟨some 36, .app 31 4 32 (.t 33) (.t 35), none⟩) ::
   o22_26_1
theorem h22_26 : wS fs out b o22_26 t h R = (wV fs out (b + 0) noT h (.mov (.k (t 4))) fun x33_0 h => wV fs out (b + 1) noT h (.load (some 4) (.k (t 6))) fun x34_1 h => wV fs out (b + 2) noT h (.bsl 31 4 1 [(.int .i64 0), (.bool false), (.int .i64 0), (.int .i64 0)] [(0, 4, (.k x34_1))]) fun x35_2 h => wV fs out (b + 3) noT h (.app 31 4 32 (.k x33_0) (.k x35_2)) fun x36_3 h => wS fs out b o22_26_1 (upd (upd (upd (upd t 33 x33_0) 34 x34_1) 35 x35_2) 36 x36_3) h R) := by kernel_rfl
def c22_26 : ACode := .region (o22_26.map (·.2)) [0, 1, 2, 3, 4] []
theorem s22_26 (h : wS fs out s.h.nx o22_26 s.t ⟨s.h.o, s.h.nx + 5⟩ (Q .normal)) : wC fs out c22_26 s Q := wC_region rfl rfl h
def c22_21 : ACode := .seq c22_22 c22_26
theorem s22_21 (h : wC fs out c22_22 s fun e s1 => match e with | .normal => wC fs out c22_26 s1 Q | e => Q e s1) : wC fs out c22_21 s Q := wC_seq h
def c22_19 : ACode := .seq c22_20 c22_21
theorem s22_19 (h : wS fs out s.h.nx o22_20 s.t ⟨s.h.o, s.h.nx + 4⟩ fun s1 => wC fs out c22_21 s1 Q) : wC fs out c22_19 s Q := wC_seq (s22_20 h)
def c22_17 : ACode := .seq c22_18 c22_19
theorem s22_17 (h : wS fs out s.h.nx o22_18 s.t ⟨s.h.o, s.h.nx + 11⟩ fun s1 => wC fs out c22_19 s1 Q) : wC fs out c22_17 s Q := wC_seq (s22_18 h)
def c22_16 : ACode := .block 1 c22_17
theorem s22_16 (h : wC fs out c22_17 s fun e s1 => Q (if e = .exit 1 then .normal else e) s1) : wC fs out c22_16 s Q := wC_block h
def o22_27 : List (Nat × AOper) := (0, ⟨some 13, .mov (.t 5), none⟩) ::
   (1, ⟨some 14, .bin .sub (.t 13) (.k (.v (.one (.int .i64 1)))), none⟩) ::
   (2, ⟨some 5, .mov (.t 14), none⟩) ::
   []
theorem h22_27 : wS fs out b o22_27 t h R = (wV fs out (b + 0) noT h (.mov (.k (t 5))) fun x13_0 h => wV fs out (b + 1) noT h (.bin .sub (.k x13_0) (.k (.v (.one (.int .i64 1))))) fun x14_1 h => wV fs out (b + 2) noT h (.mov (.k x14_1)) fun x5_2 h => R ⟨(upd (upd (upd t 13 x13_0) 14 x14_1) 5 x5_2), h⟩) := by kernel_rfl
def c22_27 : ACode := .region (o22_27.map (·.2)) [0, 1, 2] []
theorem s22_27 (h : wS fs out s.h.nx o22_27 s.t ⟨s.h.o, s.h.nx + 3⟩ (Q .normal)) : wC fs out c22_27 s Q := wC_region rfl rfl h
def c22_15 : ACode := .seq c22_16 c22_27
theorem s22_15 (h : wC fs out c22_16 s fun e s1 => match e with | .normal => wC fs out c22_27 s1 Q | e => Q e s1) : wC fs out c22_15 s Q := wC_seq h
def c22_11 : ACode := .seq c22_12 c22_15
theorem s22_11 (h : wC fs out c22_12 s fun e s1 => match e with | .normal => wC fs out c22_15 s1 Q | e => Q e s1) : wC fs out c22_11 s Q := wC_seq h
def c22_10 : ACode := .loop [3, 4, 5] c22_11
theorem s22_10 (I : Nat → St → Prop) (n : Nat) (h0 : I n (keepOnly [3, 4, 5] s)) (step : ∀ m s (Q' : AExit → St → Prop), I m s → (∀ m' s1, m' < m → I m' (keepOnly [3, 4, 5] s1) → Q' .normal s1) → (∀ i s1, Q (.exit i) s1 → Q' (.exit i) s1) → (∀ s1, Q .ret s1 → Q' .ret s1) → wC fs out c22_11 s Q') : wC fs out c22_10 s Q := wC_loopQ I n h0 step
def c22_9 : ACode := .block 0 c22_10
theorem s22_9 (h : wC fs out c22_10 s fun e s1 => Q (if e = .exit 0 then .normal else e) s1) : wC fs out c22_9 s Q := wC_block h
def c22_7 : ACode := .seq c22_8 c22_9
theorem s22_7 (h : wS fs out s.h.nx o22_8 s.t ⟨s.h.o, s.h.nx + 3⟩ fun s1 => wC fs out c22_9 s1 Q) : wC fs out c22_7 s Q := wC_seq (s22_8 h)
def o22_29 : List (Nat × AOper) := (0, ⟨some 37, .mov (.t 4), none⟩) ::
   (1, ⟨some 2, .mov (.t 37), none⟩) ::
   []
theorem h22_29 : wS fs out b o22_29 t h R = (wV fs out (b + 0) noT h (.mov (.k (t 4))) fun x37_0 h => wV fs out (b + 1) noT h (.mov (.k x37_0)) fun x2_1 h => R ⟨(upd (upd t 37 x37_0) 2 x2_1), h⟩) := by kernel_rfl
def c22_29 : ACode := .region (o22_29.map (·.2)) [0, 1] []
theorem s22_29 (h : wS fs out s.h.nx o22_29 s.t ⟨s.h.o, s.h.nx + 2⟩ (Q .normal)) : wC fs out c22_29 s Q := wC_region rfl rfl h
def c22_28 : ACode := .seq c22_29 .ret
theorem s22_28 (h : wS fs out s.h.nx o22_29 s.t ⟨s.h.o, s.h.nx + 2⟩ fun s1 => wC fs out .ret s1 Q) : wC fs out c22_28 s Q := wC_seq (s22_29 h)
def c22_6 : ACode := .seq c22_7 c22_28
theorem s22_6 (h : wC fs out c22_7 s fun e s1 => match e with | .normal => wC fs out c22_28 s1 Q | e => Q e s1) : wC fs out c22_6 s Q := wC_seq h
def c22_4 : ACode := .seq c22_5 c22_6
theorem s22_4 (h : wS fs out s.h.nx o22_5 s.t ⟨s.h.o, s.h.nx + 1⟩ fun s1 => wC fs out c22_6 s1 Q) : wC fs out c22_4 s Q := wC_seq (s22_5 h)
def c22_2 : ACode := .seq c22_3 c22_4
theorem s22_2 (h : wS fs out s.h.nx o22_3 s.t ⟨s.h.o, s.h.nx + 3⟩ fun s1 => wC fs out c22_4 s1 Q) : wC fs out c22_2 s Q := wC_seq (s22_3 h)
def c22_0 : ACode := .seq c22_1 c22_2
theorem s22_0 (h : wS fs out s.h.nx o22_1 s.t ⟨s.h.o, s.h.nx + 1⟩ fun s1 => wC fs out c22_2 s1 Q) : wC fs out c22_0 s Q := wC_seq (s22_1 h)
def a22 : AFunc := ⟨1, [2], none, c22_0⟩
theorem t22 : tell Try.prog Try.f22 [([3, 4, 5], [], []), ([3, 4, 5], [], []), ([3, 4, 5, 6], [], [])] = some a22 := by kernel_rfl
theorem ok22 : FuncOk Try.prog 22 a22 := tell_ok Try.func22 t22

end Go.Proofs.Ytellgcahkpaldaa.Fn
