/- Functions of the program, as the abstract machine's, and that they are. Conditions: none. -/
import Derived.Test.YthoicdnlcnppgaaAmCo
import Derived.Test.YthoicdnlcnppgaaAmEv
import Derived.Test.YthoicdnlcnppgaaProg
set_option linter.unusedVariables false
set_option linter.unusedSimpArgs false
namespace Go.Proofs.Ythoicdnlcnppgaa.Fn
open Go Go.Am
set_option maxRecDepth 100000
variable {fs : Nat → Option AFunc} {out : Rec} {s : St} {Q : AExit → St → Prop} {b : Nat} {t : Nat → T} {h : AH} {R : St → Prop}
/-- railplan/railplanref30.topological -/
def o29_1 : List (Nat × AOper) := (0, ⟨some 4, .mov (.k (.v (.one .nils))), none⟩) ::
   (1, ⟨some 5, .mov (.k (.v (.one (.bool false)))), none⟩) ::
   []
theorem h29_1 : wS fs out b o29_1 t h R = (wV fs out (b + 0) noT h (.mov (.k (.v (.one .nils)))) fun x4_0 h => wV fs out (b + 1) noT h (.mov (.k (.v (.one (.bool false))))) fun x5_1 h => R ⟨(upd (upd t 4 x4_0) 5 x5_1), h⟩) := by kernel_rfl
def c29_1 : ACode := .region (o29_1.map (·.2)) [0, 1] []
theorem s29_1 (h : wS fs out s.h.nx o29_1 s.t ⟨s.h.o, s.h.nx + 2⟩ (Q .normal)) : wC fs out c29_1 s Q := wC_region rfl rfl h
def o29_3 : List (Nat × AOper) := (0, ⟨some 13, .mov (.t 0), none⟩) ::
   (1, ⟨some 14, .mks 4 1 1 [(.bool false)] (.t 13) (.t 13), none⟩) ::
   (2, ⟨some 6, .mov (.t 14), none⟩) ::
   []
theorem h29_3 : wS fs out b o29_3 t h R = (wV fs out (b + 0) noT h (.mov (.k (t 0))) fun x13_0 h => wV fs out (b + 1) noT h (.mks 4 1 1 [(.bool false)] (.k x13_0) (.k x13_0)) fun x14_1 h => wV fs out (b + 2) noT h (.mov (.k x14_1)) fun x6_2 h => R ⟨(upd (upd (upd t 13 x13_0) 14 x14_1) 6 x6_2), h⟩) := by kernel_rfl
def c29_3 : ACode := .region (o29_3.map (·.2)) [0, 1, 2] []
theorem s29_3 (h : wS fs out s.h.nx o29_3 s.t ⟨s.h.o, s.h.nx + 3⟩ (Q .normal)) : wC fs out c29_3 s Q := wC_region rfl rfl h
def o29_5 : List (Nat × AOper) := (0, ⟨some 7, .mov (.k (.v (.one .nils))), none⟩) ::
   []
theorem h29_5 : wS fs out b o29_5 t h R = (wV fs out (b + 0) noT h (.mov (.k (.v (.one .nils)))) fun x7_0 h => R ⟨(upd t 7 x7_0), h⟩) := by kernel_rfl
def c29_5 : ACode := .region (o29_5.map (·.2)) [0] []
theorem s29_5 (h : wS fs out s.h.nx o29_5 s.t ⟨s.h.o, s.h.nx + 1⟩ (Q .normal)) : wC fs out c29_5 s Q := wC_region rfl rfl h
def o29_11 : List (Nat × AOper) := (0, ⟨some 15, .mov (.t 7), none⟩) ::
   (1, ⟨some 16, .len (.t 15), none⟩) ::
   (2, ⟨some 17, .mov (.t 0), none⟩) ::
   (3, ⟨some 18, .bin .lss (.t 16) (.t 17), none⟩) ::
   []
theorem h29_11 : wS fs out b o29_11 t h R = (wV fs out (b + 0) noT h (.mov (.k (t 7))) fun x15_0 h => wV fs out (b + 1) noT h (.len (.k x15_0)) fun x16_1 h => wV fs out (b + 2) noT h (.mov (.k (t 0))) fun x17_2 h => wV fs out (b + 3) noT h (.bin .lss (.k x16_1) (.k x17_2)) fun x18_3 h => R ⟨(upd (upd (upd (upd t 15 x15_0) 16 x16_1) 17 x17_2) 18 x18_3), h⟩) := by kernel_rfl
def c29_11 : ACode := .region (o29_11.map (·.2)) [0, 1, 2, 3] []
theorem s29_11 (h : wS fs out s.h.nx o29_11 s.t ⟨s.h.o, s.h.nx + 4⟩ (Q .normal)) : wC fs out c29_11 s Q := wC_region rfl rfl h
def c29_12 : ACode := .cond (.t 18) .skip (.exit 0) [0, 1, 6, 7]
theorem s29_12 (h : onC (s.t 18) (Q .normal (keepOnly [0, 1, 6, 7] s)) (Q (.exit 0) (keepOnly [0, 1, 6, 7] s))) : wC fs out c29_12 s Q := wC_condC (by first | exact h | (simp only [wC_skip, wC_exit, wC_ret]; exact h))
def c29_10 : ACode := .seq c29_11 c29_12
theorem s29_10 (h : wS fs out s.h.nx o29_11 s.t ⟨s.h.o, s.h.nx + 4⟩ fun s1 => wC fs out c29_12 s1 Q) : wC fs out c29_10 s Q := wC_seq (s29_11 h)
def o29_15 : List (Nat × AOper) := (0, ⟨some 8, .mov (.k (.v (.one (.int .i64 (-1))))), none⟩) ::
   []
theorem h29_15 : wS fs out b o29_15 t h R = (wV fs out (b + 0) noT h (.mov (.k (.v (.one (.int .i64 (-1)))))) fun x8_0 h => R ⟨(upd t 8 x8_0), h⟩) := by kernel_rfl
def c29_15 : ACode := .region (o29_15.map (·.2)) [0] []
theorem s29_15 (h : wS fs out s.h.nx o29_15 s.t ⟨s.h.o, s.h.nx + 1⟩ (Q .normal)) : wC fs out c29_15 s Q := wC_region rfl rfl h
def o29_18 : List (Nat × AOper) := (0, ⟨some 9, .mov (.k (.v (.one (.int .i64 0)))), none⟩) ::
   []
theorem h29_18 : wS fs out b o29_18 t h R = (wV fs out (b + 0) noT h (.mov (.k (.v (.one (.int .i64 0))))) fun x9_0 h => R ⟨(upd t 9 x9_0), h⟩) := by kernel_rfl
def c29_18 : ACode := .region (o29_18.map (·.2)) [0] []
theorem s29_18 (h : wS fs out s.h.nx o29_18 s.t ⟨s.h.o, s.h.nx + 1⟩ (Q .normal)) : wC fs out c29_18 s Q := wC_region rfl rfl h
def o29_23_2 : List (Nat × AOper) := (6, ⟨some 25, .pick (.t 22) (.t 24) (.k (.v (.one (.bool false)))), none⟩) ::
   []
theorem h29_23_2 : wS fs out b o29_23_2 t h R = (wV fs out (b + 6) noT h (.pick (.k (t 22)) (.k (t 24)) (.k (.v (.one (.bool false))))) fun x25_0 h => R ⟨(upd t 25 x25_0), h⟩) := by kernel_rfl
def o29_23_1g : List (Nat × AOper) := (4, ⟨some 23, .mov (.t 8), none⟩) ::
   (5, ⟨some 24, .bin .lss (.t 23) (.k (.v (.one (.int .i64 0)))), none⟩) ::
   []
theorem h29_23_1g : wS fs out b o29_23_1g t h R = (wV fs out (b + 4) noT h (.mov (.k (t 8))) fun x23_0 h => wV fs out (b + 5) noT h (.bin .lss (.k x23_0) (.k (.v (.one (.int .i64 0))))) fun x24_1 h => R ⟨(upd (upd t 23 x23_0) 24 x24_1), h⟩) := by kernel_rfl
def o29_23_1 : List (Nat × AOper) := grp 22 true o29_23_1g o29_23_2
theorem w29_23_1 : wS fs out b o29_23_1 t h R = onG (t 22) true (wS fs out b o29_23_1g (upd t 22 (.v (.one (.bool true)))) h fun s => wS fs out b o29_23_2 s.t s.h R) (wS fs out b o29_23_2 (upd (upd (upd t 22 (.v (.one (.bool false)))) 23 (.tup [])) 24 (.tup [])) h R) (wS fs out b o29_23_2 (upd (upd t 23 (.tup [])) 24 (.tup [])) h R) := wS_grpE rfl
def o29_23 : List (Nat × AOper) := (0, ⟨some 19, .mov (.t 9), none⟩) ::
   (1, ⟨some 20, .mov (.t 0), none⟩) ::
   (2, ⟨some 21, .bin .lss (.t 19) (.t 20), none⟩) ::
   (3, ⟨some 22, .mov (.t 21), none⟩) ::
   o29_23_1
theorem h29_23 : wS fs out b o29_23 t h R = (wV fs out (b + 0) noT h (.mov (.k (t 9))) fun x19_0 h => wV fs out (b + 1) noT h (.mov (.k (t 0))) fun x20_1 h => wV fs out (b + 2) noT h (.bin .lss (.k x19_0) (.k x20_1)) fun x21_2 h => wV fs out (b + 3) noT h (.mov (.k x21_2)) fun x22_3 h => wS fs out b o29_23_1 (upd (upd (upd (upd t 19 x19_0) 20 x20_1) 21 x21_2) 22 x22_3) h R) := by kernel_rfl
def c29_23 : ACode := .region (o29_23.map (·.2)) [0, 1, 2, 3, 4, 5, 6] []
theorem s29_23 (h : wS fs out s.h.nx o29_23 s.t ⟨s.h.o, s.h.nx + 7⟩ (Q .normal)) : wC fs out c29_23 s Q := wC_region rfl rfl h
def c29_24 : ACode := .cond (.t 25) .skip (.exit 2) [0, 1, 6, 7, 8, 9]
theorem s29_24 (h : onC (s.t 25) (Q .normal (keepOnly [0, 1, 6, 7, 8, 9] s)) (Q (.exit 2) (keepOnly [0, 1, 6, 7, 8, 9] s))) : wC fs out c29_24 s Q := wC_condC (by first | exact h | (simp only [wC_skip, wC_exit, wC_ret]; exact h))
def c29_22 : ACode := .seq c29_23 c29_24
theorem s29_22 (h : wS fs out s.h.nx o29_23 s.t ⟨s.h.o, s.h.nx + 7⟩ fun s1 => wC fs out c29_24 s1 Q) : wC fs out c29_22 s Q := wC_seq (s29_23 h)
def o29_28 : List (Nat × AOper) := (0, ⟨some 28, .mov (.t 6), none⟩) ::
   (1, ⟨some 29, .mov (.t 9), none⟩) ::
   (2, ⟨some 30, .iadr 1 (.t 28) (.t 29), none⟩) ::
   (3, ⟨some 31, .load none (.t 30), none⟩) ::
   (4, ⟨some 32, .not (.t 31), none⟩) ::
   (5, ⟨some 10, .mov (.t 32), none⟩) ::
   []
theorem h29_28 : wS fs out b o29_28 t h R = (wV fs out (b + 0) noT h (.mov (.k (t 6))) fun x28_0 h => wV fs out (b + 1) noT h (.mov (.k (t 9))) fun x29_1 h => wV fs out (b + 2) noT h (.iadr 1 (.k x28_0) (.k x29_1)) fun x30_2 h => wV fs out (b + 3) noT h (.load none (.k x30_2)) fun x31_3 h => wV fs out (b + 4) noT h (.not (.k x31_3)) fun x32_4 h => wV fs out (b + 5) noT h (.mov (.k x32_4)) fun x10_5 h => R ⟨(upd (upd (upd (upd (upd (upd t 28 x28_0) 29 x29_1) 30 x30_2) 31 x31_3) 32 x32_4) 10 x10_5), h⟩) := by kernel_rfl
def c29_28 : ACode := .region (o29_28.map (·.2)) [0, 1, 2, 3, 4, 5] []
theorem s29_28 (h : wS fs out s.h.nx o29_28 s.t ⟨s.h.o, s.h.nx + 6⟩ (Q .normal)) : wC fs out c29_28 s Q := wC_region rfl rfl h
def o29_31 : List (Nat × AOper) := (0, ⟨some 33, .mov (.t 1), none⟩) ::
   (1, ⟨some 34, .len (.t 33), none⟩) ::
   (2, ⟨some 35, .mov (.k (.v (.one (.int .i64 0)))), none⟩) ::
   []
theorem h29_31 : wS fs out b o29_31 t h R = (wV fs out (b + 0) noT h (.mov (.k (t 1))) fun x33_0 h => wV fs out (b + 1) noT h (.len (.k x33_0)) fun x34_1 h => wV fs out (b + 2) noT h (.mov (.k (.v (.one (.int .i64 0))))) fun x35_2 h => R ⟨(upd (upd (upd t 33 x33_0) 34 x34_1) 35 x35_2), h⟩) := by kernel_rfl
def c29_31 : ACode := .region (o29_31.map (·.2)) [0, 1, 2] []
theorem s29_31 (h : wS fs out s.h.nx o29_31 s.t ⟨s.h.o, s.h.nx + 3⟩ (Q .normal)) : wC fs out c29_31 s Q := wC_region rfl rfl h
def o29_35 : List (Nat × AOper) := (0, ⟨some 36, .bin .lss (.t 35) (.t 34), none⟩) ::
   []
theorem h29_35 : wS fs out b o29_35 t h R = (wV fs out (b + 0) noT h (.bin .lss (.k (t 35)) (.k (t 34))) fun x36_0 h => R ⟨(upd t 36 x36_0), h⟩) := by kernel_rfl
def c29_35 : ACode := .region (o29_35.map (·.2)) [0] []
theorem s29_35 (h : wS fs out s.h.nx o29_35 s.t ⟨s.h.o, s.h.nx + 1⟩ (Q .normal)) : wC fs out c29_35 s Q := wC_region rfl rfl h
def c29_37 : ACode := .cond (.t 36) .skip (.exit 4) [0, 1, 6, 7, 8, 9, 10, 33, 34, 35]
theorem s29_37 (h : onC (s.t 36) (Q .normal (keepOnly [0, 1, 6, 7, 8, 9, 10, 33, 34, 35] s)) (Q (.exit 4) (keepOnly [0, 1, 6, 7, 8, 9, 10, 33, 34, 35] s))) : wC fs out c29_37 s Q := wC_condC (by first | exact h | (simp only [wC_skip, wC_exit, wC_ret]; exact h))
def o29_41 : List (Nat × AOper) := (0, ⟨some 37, .iadr 4 (.t 33) (.t 35), none⟩) ::
   (1, ⟨some 38, .load (some 4) (.t 37), none⟩) ::
   (2, ⟨some 12, .new 35 [(.int .i64 0), (.int .i64 0), (.int .i64 0), (.int .i64 0)], none⟩) ::
   (3, ⟨none, .store 4 (.t 12) (.t 38), none⟩) ::
   []
theorem h29_41 : wS fs out b o29_41 t h R = (wV fs out (b + 0) noT h (.iadr 4 (.k (t 33)) (.k (t 35))) fun x37_0 h => wV fs out (b + 1) noT h (.load (some 4) (.k x37_0)) fun x38_1 h => wV fs out (b + 2) noT h (.new 35 [(.int .i64 0), (.int .i64 0), (.int .i64 0), (.int .i64 0)]) fun x12_2 h => wV fs out (b + 3) noT h (.store 4 (.k x12_2) (.k x38_1)) fun _ h => R ⟨(upd (upd (upd t 37 x37_0) 38 x38_1) 12 x12_2), h⟩) := by kernel_rfl
def c29_41 : ACode := .region (o29_41.map (·.2)) [0, 1, 2, 3] []
theorem s29_41 (h : wS fs out s.h.nx o29_41 s.t ⟨s.h.o, s.h.nx + 4⟩ (Q .normal)) : wC fs out c29_41 s Q := wC_region rfl rfl h
def o29_42_4 : List (Nat × AOper) := (13, ⟨some 52, .pick (.t 40) (.t 51) (.k (.v (.one (.bool false)))), none⟩) ::
   (14, ⟨some 10, .mov (.t 52), none⟩) ::
   []
theorem h29_42_4 : wS fs out b o29_42_4 t h R = (wV fs out (b + 13) noT h (.pick (.k (t 40)) (.k (t 51)) (.k (.v (.one (.bool false))))) fun x52_0 h => wV fs out (b + 14) noT h (.mov (.k x52_0)) fun x10_1 h => R ⟨(upd (upd t 52 x52_0) 10 x10_1), h⟩) := by kernel_rfl
def o29_42_3g : List (Nat × AOper) := (12, ⟨some 51, .pick (.t 45) (.k (.v (.one (.bool true)))) (.t 50), none⟩) ::
   []
theorem h29_42_3g : wS fs out b o29_42_3g t h R = (wV fs out (b + 12) noT h (.pick (.k (t 45)) (.k (.v (.one (.bool true)))) (.k (t 50))) fun x51_0 h => R ⟨(upd t 51 x51_0), h⟩) := by kernel_rfl
def o29_42_3 : List (Nat × AOper) := grp 40 true o29_42_3g o29_42_4
theorem w29_42_3 : wS fs out b o29_42_3 t h R = onG (t 40) true (wS fs out b o29_42_3g (upd t 40 (.v (.one (.bool true)))) h fun s => wS fs out b o29_42_4 s.t s.h R) (wS fs out b o29_42_4 (upd (upd t 40 (.v (.one (.bool false)))) 51 (.tup [])) h R) (wS fs out b o29_42_4 (upd t 51 (.tup [])) h R) := wS_grpE rfl
def o29_42_2g : List (Nat × AOper) := (7, ⟨some 46, .mov (.t 6), none⟩) ::
   (8, ⟨some 47, .fadr 0 (.t 12), none⟩) ::
   (9, ⟨some 48, .load none (.t 47), none⟩) ::
   (10, ⟨some 49, .iadr 1 (.t 46) (.t 48), none⟩) ::
   (11, ⟨some 50, .load none (.t 49), none⟩) ::
   []
theorem h29_42_2g : wS fs out b o29_42_2g t h R = (wV fs out (b + 7) noT h (.mov (.k (t 6))) fun x46_0 h => wV fs out (b + 8) noT h (.fadr 0 (.k (t 12))) fun x47_1 h => wV fs out (b + 9) noT h (.load none (.k x47_1)) fun x48_2 h => wV fs out (b + 10) noT h (.iadr 1 (.k x46_0) (.k x48_2)) fun x49_3 h => wV fs out (b + 11) noT h (.load none (.k x49_3)) fun x50_4 h => R ⟨(upd (upd (upd (upd (upd t 46 x46_0) 47 x47_1) 48 x48_2) 49 x49_3) 50 x50_4), h⟩) := by kernel_rfl
def o29_42_2 : List (Nat × AOper) := grp 45 false o29_42_2g o29_42_3
theorem w29_42_2 : wS fs out b o29_42_2 t h R = onG (t 45) false (wS fs out b o29_42_2g (upd t 45 (.v (.one (.bool false)))) h fun s => wS fs out b o29_42_3 s.t s.h R) (wS fs out b o29_42_3 (upd (upd (upd (upd (upd (upd t 45 (.v (.one (.bool true)))) 46 (.tup [])) 47 (.tup [])) 48 (.tup [])) 49 (.tup [])) 50 (.tup [])) h R) (wS fs out b o29_42_3 (upd (upd (upd (upd (upd t 46 (.tup [])) 47 (.tup [])) 48 (.tup [])) 49 (.tup [])) 50 (.tup [])) h R) := wS_grpE rfl
def o29_42_1g : List (Nat × AOper) := (2, ⟨some 41, .fadr 1 (.t 12), none⟩) ::
   (3, ⟨some 42, .load none (.t 41), none⟩) ::
   (4, ⟨some 43, .mov (.t 9), none⟩) ::
   (5, ⟨some 44, .bin .neq (.t 42) (.t 43), none⟩) ::
   (6, ⟨some 45, .mov (.t 44), none⟩) ::
   []
theorem h29_42_1g : wS fs out b o29_42_1g t h R = (wV fs out (b + 2) noT h (.fadr 1 (.k (t 12))) fun x41_0 h => wV fs out (b + 3) noT h (.load none (.k x41_0)) fun x42_1 h => wV fs out (b + 4) noT h (.mov (.k (t 9))) fun x43_2 h => wV fs out (b + 5) noT h (.bin .neq (.k x42_1) (.k x43_2)) fun x44_3 h => wV fs out (b + 6) noT h (.mov (.k x44_3)) fun x45_4 h => R ⟨(upd (upd (upd (upd (upd t 41 x41_0) 42 x42_1) 43 x43_2) 44 x44_3) 45 x45_4), h⟩) := by kernel_rfl
def o29_42_1 : List (Nat × AOper) := grp 40 true o29_42_1g o29_42_2
theorem w29_42_1 : wS fs out b o29_42_1 t h R = onG (t 40) true (wS fs out b o29_42_1g (upd t 40 (.v (.one (.bool true)))) h fun s => wS fs out b o29_42_2 s.t s.h R) (wS fs out b o29_42_2 (upd (upd (upd (upd (upd (upd t 40 (.v (.one (.bool false)))) 41 (.tup [])) 42 (.tup [])) 43 (.tup [])) 44 (.tup [])) 45 (.tup [])) h R) (wS fs out b o29_42_2 (upd (upd (upd (upd (upd t 41 (.tup [])) 42 (.tup [])) 43 (.tup [])) 44 (.tup [])) 45 (.tup [])) h R) := wS_grpE rfl
def o29_42 : List (Nat × AOper) := (0, ⟨some 39, .mov (.t 10), none⟩) ::
   (1, ⟨some 40, .mov (.t 39), none⟩) ::
   o29_42_1
theorem h29_42 : wS fs out b o29_42 t h R = (wV fs out (b + 0) noT h (.mov (.k (t 10))) fun x39_0 h => wV fs out (b + 1) noT h (.mov (.k x39_0)) fun x40_1 h => wS fs out b o29_42_1 (upd (upd t 39 x39_0) 40 x40_1) h R) := by kernel_rfl
def c29_42 : ACode := .region (o29_42.map (·.2)) [0, 1, 2, 3, 4, 5, 6, 7, 8, 9, 10, 11, 12, 13, 14] []
theorem s29_42 (h : wS fs out s.h.nx o29_42 s.t ⟨s.h.o, s.h.nx + 15⟩ (Q .normal)) : wC fs out c29_42 s Q := wC_region rfl rfl h
def c29_40 : ACode := .seq c29_41 c29_42
theorem s29_40 (h : wS fs out s.h.nx o29_41 s.t ⟨s.h.o, s.h.nx + 4⟩ fun s1 => wC fs out c29_42 s1 Q) : wC fs out c29_40 s Q := wC_seq (s29_41 h)
def c29_39 : ACode := .block 5 c29_40
theorem s29_39 (h : wC fs out c29_40 s fun e s1 => Q (if e = .exit 5 then .normal else e) s1) : wC fs out c29_39 s Q := wC_block h
def o29_43 : List (Nat × AOper) := (0, ⟨some 53, .bin .add (.t 35) (.k (.v (.one (.int .i64 1)))), none⟩) ::
   (1, ⟨some 35, .mov (.t 53), none⟩) ::
   []
theorem h29_43 : wS fs out b o29_43 t h R = (wV fs out (b + 0) noT h (.bin .add (.k (t 35)) (.k (.v (.one (.int .i64 1))))) fun x53_0 h => wV fs out (b + 1) noT h (.mov (.k x53_0)) fun x35_1 h => R ⟨(upd (upd t 53 x53_0) 35 x35_1), h⟩) := by kernel_rfl
def c29_43 : ACode := .region (o29_43.map (·.2)) [0, 1] []
theorem s29_43 (h : wS fs out s.h.nx o29_43 s.t ⟨s.h.o, s.h.nx + 2⟩ (Q .normal)) : wC fs out c29_43 s Q := wC_region rfl rfl h
def c29_38 : ACode := .seq c29_39 c29_43
theorem s29_38 (h : wC fs out c29_39 s fun e s1 => match e with | .normal => wC fs out c29_43 s1 Q | e => Q e s1) : wC fs out c29_38 s Q := wC_seq h
def c29_36 : ACode := .seq c29_37 c29_38
theorem s29_36 (h : onC (s.t 36) (wC fs out c29_38 (keepOnly [0, 1, 6, 7, 8, 9, 10, 33, 34, 35] s) Q) (Q (.exit 4) (keepOnly [0, 1, 6, 7, 8, 9, 10, 33, 34, 35] s))) : wC fs out c29_36 s Q := wC_seq (s29_37 h)
def c29_34 : ACode := .seq c29_35 c29_36
theorem s29_34 (h : wS fs out s.h.nx o29_35 s.t ⟨s.h.o, s.h.nx + 1⟩ fun s1 => wC fs out c29_36 s1 Q) : wC fs out c29_34 s Q := wC_seq (s29_35 h)
def c29_33 : ACode := .loop [0, 1, 6, 7, 8, 9, 10, 33, 34, 35] c29_34
theorem s29_33 (I : Nat → St → Prop) (n : Nat) (h0 : I n (keepOnly [0, 1, 6, 7, 8, 9, 10, 33, 34, 35] s)) (step : ∀ m s (Q' : AExit → St → Prop), I m s → (∀ m' s1, m' < m → I m' (keepOnly [0, 1, 6, 7, 8, 9, 10, 33, 34, 35] s1) → Q' .normal s1) → (∀ i s1, Q (.exit i) s1 → Q' (.exit i) s1) → (∀ s1, Q .ret s1 → Q' .ret s1) → wC fs out c29_34 s Q') : wC fs out c29_33 s Q := wC_loopQ I n h0 step
def c29_32 : ACode := .block 4 c29_33
theorem s29_32 (h : wC fs out c29_33 s fun e s1 => Q (if e = .exit 4 then .normal else e) s1) : wC fs out c29_32 s Q := wC_block h
def c29_30 : ACode := .seq c29_31 c29_32
theorem s29_30 (h : wS fs out s.h.nx o29_31 s.t ⟨s.h.o, s.h.nx + 3⟩ fun s1 => wC fs out c29_32 s1 Q) : wC fs out c29_30 s Q := wC_seq (s29_31 h)
def o29_45 : List (Nat × AOper) := (0, ⟨some 54, .mov (.t 10), none⟩) ::
   []
theorem h29_45 : wS fs out b o29_45 t h R = (wV fs out (b + 0) noT h (.mov (.k (t 10))) fun x54_0 h => R ⟨(upd t 54 x54_0), h⟩) := by kernel_rfl
def c29_45 : ACode := .region (o29_45.map (·.2)) [0] []
theorem s29_45 (h : wS fs out s.h.nx o29_45 s.t ⟨s.h.o, s.h.nx + 1⟩ (Q .normal)) : wC fs out c29_45 s Q := wC_region rfl rfl h
def o29_47 : List (Nat × AOper) := (0, ⟨some 55, .mov (.t 9), none⟩) ::
   (1, ⟨some 8, .mov (.t 55), none⟩) ::
   []
theorem h29_47 : wS fs out b o29_47 t h R = (wV fs out (b + 0) noT h (.mov (.k (t 9))) fun x55_0 h => wV fs out (b + 1) noT h (.mov (.k x55_0)) fun x8_1 h => R ⟨(upd (upd t 55 x55_0) 8 x8_1), h⟩) := by kernel_rfl
def c29_47 : ACode := .region (o29_47.map (·.2)) [0, 1] []
theorem s29_47 (h : wS fs out s.h.nx o29_47 s.t ⟨s.h.o, s.h.nx + 2⟩ (Q .normal)) : wC fs out c29_47 s Q := wC_region rfl rfl h
def c29_46 : ACode := .cond (.t 54) c29_47 .skip [0, 1, 6, 7, 8, 9]
theorem s29_46 (h : onC (s.t 54) (wC fs out c29_47 s fun e s1 => Q e (keepOnly [0, 1, 6, 7, 8, 9] s1)) (Q .normal (keepOnly [0, 1, 6, 7, 8, 9] s))) : wC fs out c29_46 s Q := wC_condC (by first | exact h | (simp only [wC_skip, wC_exit, wC_ret]; exact h))
def c29_44 : ACode := .seq c29_45 c29_46
theorem s29_44 (h : wS fs out s.h.nx o29_45 s.t ⟨s.h.o, s.h.nx + 1⟩ fun s1 => wC fs out c29_46 s1 Q) : wC fs out c29_44 s Q := wC_seq (s29_45 h)
def c29_29 : ACode := .seq c29_30 c29_44
theorem s29_29 (h : wC fs out c29_30 s fun e s1 => match e with | .normal => wC fs out c29_44 s1 Q | e => Q e s1) : wC fs out c29_29 s Q := wC_seq h
def c29_27 : ACode := .seq c29_28 c29_29
theorem s29_27 (h : wS fs out s.h.nx o29_28 s.t ⟨s.h.o, s.h.nx + 6⟩ fun s1 => wC fs out c29_29 s1 Q) : wC fs out c29_27 s Q := wC_seq (s29_28 h)
def c29_26 : ACode := .block 3 c29_27
theorem s29_26 (h : wC fs out c29_27 s fun e s1 => Q (if e = .exit 3 then .normal else e) s1) : wC fs out c29_26 s Q := wC_block h
def o29_48 : List (Nat × AOper) := (0, ⟨some 26, .mov (.t 9), none⟩) ::
   (1, ⟨some 27, .bin .add (.t 26) (.k (.v (.one (.int .i64 1)))), none⟩) ::
   (2, ⟨some 9, .mov (.t 27), none⟩) ::
   []
theorem h29_48 : wS fs out b o29_48 t h R = (wV fs out (b + 0) noT h (.mov (.k (t 9))) fun x26_0 h => wV fs out (b + 1) noT h (.bin .add (.k x26_0) (.k (.v (.one (.int .i64 1))))) fun x27_1 h => wV fs out (b + 2) noT h (.mov (.k x27_1)) fun x9_2 h => R ⟨(upd (upd (upd t 26 x26_0) 27 x27_1) 9 x9_2), h⟩) := by kernel_rfl
def c29_48 : ACode := .region (o29_48.map (·.2)) [0, 1, 2] []
theorem s29_48 (h : wS fs out s.h.nx o29_48 s.t ⟨s.h.o, s.h.nx + 3⟩ (Q .normal)) : wC fs out c29_48 s Q := wC_region rfl rfl h
def c29_25 : ACode := .seq c29_26 c29_48
theorem s29_25 (h : wC fs out c29_26 s fun e s1 => match e with | .normal => wC fs out c29_48 s1 Q | e => Q e s1) : wC fs out c29_25 s Q := wC_seq h
def c29_21 : ACode := .seq c29_22 c29_25
theorem s29_21 (h : wC fs out c29_22 s fun e s1 => match e with | .normal => wC fs out c29_25 s1 Q | e => Q e s1) : wC fs out c29_21 s Q := wC_seq h
def c29_20 : ACode := .loop [0, 1, 6, 7, 8, 9] c29_21
theorem s29_20 (I : Nat → St → Prop) (n : Nat) (h0 : I n (keepOnly [0, 1, 6, 7, 8, 9] s)) (step : ∀ m s (Q' : AExit → St → Prop), I m s → (∀ m' s1, m' < m → I m' (keepOnly [0, 1, 6, 7, 8, 9] s1) → Q' .normal s1) → (∀ i s1, Q (.exit i) s1 → Q' (.exit i) s1) → (∀ s1, Q .ret s1 → Q' .ret s1) → wC fs out c29_21 s Q') : wC fs out c29_20 s Q := wC_loopQ I n h0 step
def c29_19 : ACode := .block 2 c29_20
theorem s29_19 (h : wC fs out c29_20 s fun e s1 => Q (if e = .exit 2 then .normal else e) s1) : wC fs out c29_19 s Q := wC_block h
def c29_17 : ACode := .seq c29_18 c29_19
theorem s29_17 (h : wS fs out s.h.nx o29_18 s.t ⟨s.h.o, s.h.nx + 1⟩ fun s1 => wC fs out c29_19 s1 Q) : wC fs out c29_17 s Q := wC_seq (s29_18 h)
def o29_51 : List (Nat × AOper) := (0, ⟨some 56, .mov (.t 8), none⟩) ::
   (1, ⟨some 57, .bin .lss (.t 56) (.k (.v (.one (.int .i64 0)))), none⟩) ::
   []
theorem h29_51 : wS fs out b o29_51 t h R = (wV fs out (b + 0) noT h (.mov (.k (t 8))) fun x56_0 h => wV fs out (b + 1) noT h (.bin .lss (.k x56_0) (.k (.v (.one (.int .i64 0))))) fun x57_1 h => R ⟨(upd (upd t 56 x56_0) 57 x57_1), h⟩) := by kernel_rfl
def c29_51 : ACode := .region (o29_51.map (·.2)) [0, 1] []
theorem s29_51 (h : wS fs out s.h.nx o29_51 s.t ⟨s.h.o, s.h.nx + 2⟩ (Q .normal)) : wC fs out c29_51 s Q := wC_region rfl rfl h
def o29_54 : List (Nat × AOper) := (0, ⟨some 4, .mov (.k (.v (.one .nils))), none⟩) ::
   (1, ⟨some 5, .mov (.k (.v (.one (.bool false)))), none⟩) ::
   []
theorem h29_54 : wS fs out b o29_54 t h R = (wV fs out (b + 0) noT h (.mov (.k (.v (.one .nils)))) fun x4_0 h => wV fs out (b + 1) noT h (.mov (.k (.v (.one (.bool false))))) fun x5_1 h => R ⟨(upd (upd t 4 x4_0) 5 x5_1), h⟩) := by kernel_rfl
def c29_54 : ACode := .region (o29_54.map (·.2)) [0, 1] []
theorem s29_54 (h : wS fs out s.h.nx o29_54 s.t ⟨s.h.o, s.h.nx + 2⟩ (Q .normal)) : wC fs out c29_54 s Q := wC_region rfl rfl h
def c29_53 : ACode := .seq c29_54 .ret
theorem s29_53 (h : wS fs out s.h.nx o29_54 s.t ⟨s.h.o, s.h.nx + 2⟩ fun s1 => wC fs out .ret s1 Q) : wC fs out c29_53 s Q := wC_seq (s29_54 h)
def c29_52 : ACode := .cond (.t 57) c29_53 .skip [0, 1, 4, 5, 6, 7, 8]
theorem s29_52 (h : onC (s.t 57) (wC fs out c29_53 s fun e s1 => Q e (keepOnly [0, 1, 4, 5, 6, 7, 8] s1)) (Q .normal (keepOnly [0, 1, 4, 5, 6, 7, 8] s))) : wC fs out c29_52 s Q := wC_condC (by first | exact h | (simp only [wC_skip, wC_exit, wC_ret]; exact h))
def c29_50 : ACode := .seq c29_51 c29_52
theorem s29_50 (h : wS fs out s.h.nx o29_51 s.t ⟨s.h.o, s.h.nx + 2⟩ fun s1 => wC fs out c29_52 s1 Q) : wC fs out c29_50 s Q := wC_seq (s29_51 h)
def o29_56 : List (Nat × AOper) := (0, ⟨some 58, .mov (.t 6), none⟩) ::
   (1, ⟨some 59, .mov (.t 8), none⟩) ::
   (2, ⟨some 60, .iadr 1 (.t 58) (.t 59), none⟩) ::
   (3, ⟨none, .store 1 (.t 60) (.k (.v (.one (.bool true)))), none⟩) ::
   []
theorem h29_56 : wS fs out b o29_56 t h R = (wV fs out (b + 0) noT h (.mov (.k (t 6))) fun x58_0 h => wV fs out (b + 1) noT h (.mov (.k (t 8))) fun x59_1 h => wV fs out (b + 2) noT h (.iadr 1 (.k x58_0) (.k x59_1)) fun x60_2 h => wV fs out (b + 3) noT h (.store 1 (.k x60_2) (.k (.v (.one (.bool true))))) fun _ h => R ⟨(upd (upd (upd t 58 x58_0) 59 x59_1) 60 x60_2), h⟩) := by kernel_rfl
def c29_56 : ACode := .region (o29_56.map (·.2)) [0, 1, 2, 3] []
theorem s29_56 (h : wS fs out s.h.nx o29_56 s.t ⟨s.h.o, s.h.nx + 4⟩ (Q .normal)) : wC fs out c29_56 s Q := wC_region rfl rfl h
def o29_57_1 : List (Nat × AOper) := (4, ⟨some 7, .mov (.t 64), none⟩) ::
   []
theorem h29_57_1 : wS fs out b o29_57_1 t h R = (wV fs out (b + 4) noT h (.mov (.k (t 64))) fun x7_0 h => R ⟨(upd t 7 x7_0), h⟩) := by kernel_rfl
def o29_57 : List (Nat × AOper) := (0, ⟨some 61, .mov (.t 7), none⟩) ::
   (1, ⟨some 62, .mov (.t 8), none⟩) ::
   (2, ⟨some 63, .bsl 3 1 1 [(.int .i64 0)] [(0, 1, (.t 62))], none⟩) ::
   (3, ⟨some 64, .app 3 1 8 (.t 61) (.t 63), none⟩) ::
   o29_57_1
theorem h29_57 : wS fs out b o29_57 t h R = (wV fs out (b + 0) noT h (.mov (.k (t 7))) fun x61_0 h => wV fs out (b + 1) noT h (.mov (.k (t 8))) fun x62_1 h => wV fs out (b + 2) noT h (.bsl 3 1 1 [(.int .i64 0)] [(0, 1, (.k x62_1))]) fun x63_2 h => wV fs out (b + 3) noT h (.app 3 1 8 (.k x61_0) (.k x63_2)) fun x64_3 h => wS fs out b o29_57_1 (upd (upd (upd (upd t 61 x61_0) 62 x62_1) 63 x63_2) 64 x64_3) h R) := by kernel_rfl
def c29_57 : ACode := .region (o29_57.map (·.2)) [0, 1, 2, 3, 4] []
theorem s29_57 (h : wS fs out s.h.nx o29_57 s.t ⟨s.h.o, s.h.nx + 5⟩ (Q .normal)) : wC fs out c29_57 s Q := wC_region rfl rfl h
def c29_55 : ACode := .seq c29_56 c29_57
theorem s29_55 (h : wS fs out s.h.nx o29_56 s.t ⟨s.h.o, s.h.nx + 4⟩ fun s1 => wC fs out c29_57 s1 Q) : wC fs out c29_55 s Q := wC_seq (s29_56 h)
def c29_49 : ACode := .seq c29_50 c29_55
theorem s29_49 (h : wC fs out c29_50 s fun e s1 => match e with | .normal => wC fs out c29_55 s1 Q | e => Q e s1) : wC fs out c29_49 s Q := wC_seq h
def c29_16 : ACode := .seq c29_17 c29_49
theorem s29_16 (h : wC fs out c29_17 s fun e s1 => match e with | .normal => wC fs out c29_49 s1 Q | e => Q e s1) : wC fs out c29_16 s Q := wC_seq h
def c29_14 : ACode := .seq c29_15 c29_16
theorem s29_14 (h : wS fs out s.h.nx o29_15 s.t ⟨s.h.o, s.h.nx + 1⟩ fun s1 => wC fs out c29_16 s1 Q) : wC fs out c29_14 s Q := wC_seq (s29_15 h)
def c29_13 : ACode := .block 1 c29_14
theorem s29_13 (h : wC fs out c29_14 s fun e s1 => Q (if e = .exit 1 then .normal else e) s1) : wC fs out c29_13 s Q := wC_block h
def c29_9 : ACode := .seq c29_10 c29_13
theorem s29_9 (h : wC fs out c29_10 s fun e s1 => match e with | .normal => wC fs out c29_13 s1 Q | e => Q e s1) : wC fs out c29_9 s Q := wC_seq h
def c29_8 : ACode := .loop [0, 1, 6, 7] c29_9
theorem s29_8 (I : Nat → St → Prop) (n : Nat) (h0 : I n (keepOnly [0, 1, 6, 7] s)) (step : ∀ m s (Q' : AExit → St → Prop), I m s → (∀ m' s1, m' < m → I m' (keepOnly [0, 1, 6, 7] s1) → Q' .normal s1) → (∀ i s1, Q (.exit i) s1 → Q' (.exit i) s1) → (∀ s1, Q .ret s1 → Q' .ret s1) → wC fs out c29_9 s Q') : wC fs out c29_8 s Q := wC_loopQ I n h0 step
def c29_7 : ACode := .block 0 c29_8
theorem s29_7 (h : wC fs out c29_8 s fun e s1 => Q (if e = .exit 0 then .normal else e) s1) : wC fs out c29_7 s Q := wC_block h
def o29_59 : List (Nat × AOper) := (0, ⟨some 65, .mov (.t 7), none⟩) ::
   (1, ⟨some 4, .mov (.t 65), none⟩) ::
   (2, ⟨some 5, .mov (.k (.v (.one (.bool true)))), none⟩) ::
   []
theorem h29_59 : wS fs out b o29_59 t h R = (wV fs out (b + 0) noT h (.mov (.k (t 7))) fun x65_0 h => wV fs out (b + 1) noT h (.mov (.k x65_0)) fun x4_1 h => wV fs out (b + 2) noT h (.mov (.k (.v (.one (.bool true))))) fun x5_2 h => R ⟨(upd (upd (upd t 65 x65_0) 4 x4_1) 5 x5_2), h⟩) := by kernel_rfl
def c29_59 : ACode := .region (o29_59.map (·.2)) [0, 1, 2] []
theorem s29_59 (h : wS fs out s.h.nx o29_59 s.t ⟨s.h.o, s.h.nx + 3⟩ (Q .normal)) : wC fs out c29_59 s Q := wC_region rfl rfl h
def c29_58 : ACode := .seq c29_59 .ret
theorem s29_58 (h : wS fs out s.h.nx o29_59 s.t ⟨s.h.o, s.h.nx + 3⟩ fun s1 => wC fs out .ret s1 Q) : wC fs out c29_58 s Q := wC_seq (s29_59 h)
def c29_6 : ACode := .seq c29_7 c29_58
theorem s29_6 (h : wC fs out c29_7 s fun e s1 => match e with | .normal => wC fs out c29_58 s1 Q | e => Q e s1) : wC fs out c29_6 s Q := wC_seq h
def c29_4 : ACode := .seq c29_5 c29_6
theorem s29_4 (h : wS fs out s.h.nx o29_5 s.t ⟨s.h.o, s.h.nx + 1⟩ fun s1 => wC fs out c29_6 s1 Q) : wC fs out c29_4 s Q := wC_seq (s29_5 h)
def c29_2 : ACode := .seq c29_3 c29_4
theorem s29_2 (h : wS fs out s.h.nx o29_3 s.t ⟨s.h.o, s.h.nx + 3⟩ fun s1 => wC fs out c29_4 s1 Q) : wC fs out c29_2 s Q := wC_seq (s29_3 h)
def c29_0 : ACode := .seq c29_1 c29_2
theorem s29_0 (h : wS fs out s.h.nx o29_1 s.t ⟨s.h.o, s.h.nx + 2⟩ fun s1 => wC fs out c29_2 s1 Q) : wC fs out c29_0 s Q := wC_seq (s29_1 h)
def a29 : AFunc := ⟨2, [4, 5], none, c29_0⟩
theorem t29 : tell Try.prog Try.f29 [([0, 1, 6, 7], [], []), ([0, 1, 6, 7], [], []), ([0, 1, 6, 7, 8, 9], [], []), ([0, 1, 6, 7, 8, 9], [], []), ([0, 1, 6, 7, 8, 9, 10, 33, 34, 35], [], []), ([0, 1, 6, 7, 8, 9, 10, 33, 34, 35], [], []), ([0, 1, 6, 7, 8, 9], [], []), ([0, 1, 4, 5, 6, 7, 8], [], [])] = some a29 := by kernel_rfl
theorem ok29 : FuncOk Try.prog 29 a29 := tell_ok Try.func29 t29

/-- railplan/railplanref30.primary -/
def o30_1 : List (Nat × AOper) := (0, ⟨some 4, .mov (.k (.v (.one (.int .i64 0)))), none⟩) ::
   []
theorem h30_1 : wS fs out b o30_1 t h R = (wV fs out (b + 0) noT h (.mov (.k (.v (.one (.int .i64 0))))) fun x4_0 h => R ⟨(upd t 4 x4_0), h⟩) := by kernel_rfl
def c30_1 : ACode := .region (o30_1.map (·.2)) [0] []
theorem s30_1 (h : wS fs out s.h.nx o30_1 s.t ⟨s.h.o, s.h.nx + 1⟩ (Q .normal)) : wC fs out c30_1 s Q := wC_region rfl rfl h
def o30_4 : List (Nat × AOper) := (0, ⟨some 7, .mov (.t 0), none⟩) ::
   (1, ⟨some 8, .len (.t 7), none⟩) ::
   (2, ⟨some 9, .mov (.k (.v (.one (.int .i64 0)))), none⟩) ::
   []
theorem h30_4 : wS fs out b o30_4 t h R = (wV fs out (b + 0) noT h (.mov (.k (t 0))) fun x7_0 h => wV fs out (b + 1) noT h (.len (.k x7_0)) fun x8_1 h => wV fs out (b + 2) noT h (.mov (.k (.v (.one (.int .i64 0))))) fun x9_2 h => R ⟨(upd (upd (upd t 7 x7_0) 8 x8_1) 9 x9_2), h⟩) := by kernel_rfl
def c30_4 : ACode := .region (o30_4.map (·.2)) [0, 1, 2] []
theorem s30_4 (h : wS fs out s.h.nx o30_4 s.t ⟨s.h.o, s.h.nx + 3⟩ (Q .normal)) : wC fs out c30_4 s Q := wC_region rfl rfl h
def o30_8 : List (Nat × AOper) := (0, ⟨some 10, .bin .lss (.t 9) (.t 8), none⟩) ::
   []
theorem h30_8 : wS fs out b o30_8 t h R = (wV fs out (b + 0) noT h (.bin .lss (.k (t 9)) (.k (t 8))) fun x10_0 h => R ⟨(upd t 10 x10_0), h⟩) := by kernel_rfl
def c30_8 : ACode := .region (o30_8.map (·.2)) [0] []
theorem s30_8 (h : wS fs out s.h.nx o30_8 s.t ⟨s.h.o, s.h.nx + 1⟩ (Q .normal)) : wC fs out c30_8 s Q := wC_region rfl rfl h
def c30_10 : ACode := .cond (.t 10) .skip (.exit 0) [1, 7, 8, 9]
theorem s30_10 (h : onC (s.t 10) (Q .normal (keepOnly [1, 7, 8, 9] s)) (Q (.exit 0) (keepOnly [1, 7, 8, 9] s))) : wC fs out c30_10 s Q := wC_condC (by first | exact h | (simp only [wC_skip, wC_exit, wC_ret]; exact h))
def o30_14 : List (Nat × AOper) := (0, ⟨some 11, .iadr 2 (.t 7) (.t 9), none⟩) ::
   (1, ⟨some 12, .load (some 2) (.t 11), none⟩) ::
   (2, ⟨some 6, .new 39 [(.int .i64 0), (.int .i64 0)], none⟩) ::
   (3, ⟨none, .store 2 (.t 6) (.t 12), none⟩) ::
   []
theorem h30_14 : wS fs out b o30_14 t h R = (wV fs out (b + 0) noT h (.iadr 2 (.k (t 7)) (.k (t 9))) fun x11_0 h => wV fs out (b + 1) noT h (.load (some 2) (.k x11_0)) fun x12_1 h => wV fs out (b + 2) noT h (.new 39 [(.int .i64 0), (.int .i64 0)]) fun x6_2 h => wV fs out (b + 3) noT h (.store 2 (.k x6_2) (.k x12_1)) fun _ h => R ⟨(upd (upd (upd t 11 x11_0) 12 x12_1) 6 x6_2), h⟩) := by kernel_rfl
def c30_14 : ACode := .region (o30_14.map (·.2)) [0, 1, 2, 3] []
theorem s30_14 (h : wS fs out s.h.nx o30_14 s.t ⟨s.h.o, s.h.nx + 4⟩ (Q .normal)) : wC fs out c30_14 s Q := wC_region rfl rfl h
def o30_16 : List (Nat × AOper) := (0, ⟨some 13, .fadr 0 (.t 6), none⟩) ::
   (1, ⟨some 14, .load none (.t 13), none⟩) ::
   (2, ⟨some 15, .mov (.t 1), none⟩) ::
   (3, ⟨some 16, .bin .eql (.t 14) (.t 15), none⟩) ::
   []
theorem h30_16 : wS fs out b o30_16 t h R = (wV fs out (b + 0) noT h (.fadr 0 (.k (t 6))) fun x13_0 h => wV fs out (b + 1) noT h (.load none (.k x13_0)) fun x14_1 h => wV fs out (b + 2) noT h (.mov (.k (t 1))) fun x15_2 h => wV fs out (b + 3) noT h (.bin .eql (.k x14_1) (.k x15_2)) fun x16_3 h => R ⟨(upd (upd (upd (upd t 13 x13_0) 14 x14_1) 15 x15_2) 16 x16_3), h⟩) := by kernel_rfl
def c30_16 : ACode := .region (o30_16.map (·.2)) [0, 1, 2, 3] []
theorem s30_16 (h : wS fs out s.h.nx o30_16 s.t ⟨s.h.o, s.h.nx + 4⟩ (Q .normal)) : wC fs out c30_16 s Q := wC_region rfl rfl h
def o30_19 : List (Nat × AOper) := (0, ⟨some 17, .fadr 1 (.t 6), none⟩) ::
   (1, ⟨some 18, .load none (.t 17), none⟩) ::
   (2, ⟨some 4, .mov (.t 18), none⟩) ::
   []
theorem h30_19 : wS fs out b o30_19 t h R = (wV fs out (b + 0) noT h (.fadr 1 (.k (t 6))) fun x17_0 h => wV fs out (b + 1) noT h (.load none (.k x17_0)) fun x18_1 h => wV fs out (b + 2) noT h (.mov (.k x18_1)) fun x4_2 h => R ⟨(upd (upd (upd t 17 x17_0) 18 x18_1) 4 x4_2), h⟩) := by kernel_rfl
def c30_19 : ACode := .region (o30_19.map (·.2)) [0, 1, 2] []
theorem s30_19 (h : wS fs out s.h.nx o30_19 s.t ⟨s.h.o, s.h.nx + 3⟩ (Q .normal)) : wC fs out c30_19 s Q := wC_region rfl rfl h
def c30_18 : ACode := .seq c30_19 .ret
theorem s30_18 (h : wS fs out s.h.nx o30_19 s.t ⟨s.h.o, s.h.nx + 3⟩ fun s1 => wC fs out .ret s1 Q) : wC fs out c30_18 s Q := wC_seq (s30_19 h)
def c30_17 : ACode := .cond (.t 16) c30_18 .skip [1, 4, 7, 8, 9]
theorem s30_17 (h : onC (s.t 16) (wC fs out c30_18 s fun e s1 => Q e (keepOnly [1, 4, 7, 8, 9] s1)) (Q .normal (keepOnly [1, 4, 7, 8, 9] s))) : wC fs out c30_17 s Q := wC_condC (by first | exact h | (simp only [wC_skip, wC_exit, wC_ret]; exact h))
def c30_15 : ACode := .seq c30_16 c30_17
theorem s30_15 (h : wS fs out s.h.nx o30_16 s.t ⟨s.h.o, s.h.nx + 4⟩ fun s1 => wC fs out c30_17 s1 Q) : wC fs out c30_15 s Q := wC_seq (s30_16 h)
def c30_13 : ACode := .seq c30_14 c30_15
theorem s30_13 (h : wS fs out s.h.nx o30_14 s.t ⟨s.h.o, s.h.nx + 4⟩ fun s1 => wC fs out c30_15 s1 Q) : wC fs out c30_13 s Q := wC_seq (s30_14 h)
def c30_12 : ACode := .block 1 c30_13
theorem s30_12 (h : wC fs out c30_13 s fun e s1 => Q (if e = .exit 1 then .normal else e) s1) : wC fs out c30_12 s Q := wC_block h
def o30_20 : List (Nat × AOper) := (0, ⟨some 19, .bin .add (.t 9) (.k (.v (.one (.int .i64 1)))), none⟩) ::
   (1, ⟨some 9, .mov (.t 19), none⟩) ::
   []
theorem h30_20 : wS fs out b o30_20 t h R = (wV fs out (b + 0) noT h (.bin .add (.k (t 9)) (.k (.v (.one (.int .i64 1))))) fun x19_0 h => wV fs out (b + 1) noT h (.mov (.k x19_0)) fun x9_1 h => R ⟨(upd (upd t 19 x19_0) 9 x9_1), h⟩) := by kernel_rfl
def c30_20 : ACode := .region (o30_20.map (·.2)) [0, 1] []
theorem s30_20 (h : wS fs out s.h.nx o30_20 s.t ⟨s.h.o, s.h.nx + 2⟩ (Q .normal)) : wC fs out c30_20 s Q := wC_region rfl rfl h
def c30_11 : ACode := .seq c30_12 c30_20
theorem s30_11 (h : wC fs out c30_12 s fun e s1 => match e with | .normal => wC fs out c30_20 s1 Q | e => Q e s1) : wC fs out c30_11 s Q := wC_seq h
def c30_9 : ACode := .seq c30_10 c30_11
theorem s30_9 (h : onC (s.t 10) (wC fs out c30_11 (keepOnly [1, 7, 8, 9] s) Q) (Q (.exit 0) (keepOnly [1, 7, 8, 9] s))) : wC fs out c30_9 s Q := wC_seq (s30_10 h)
def c30_7 : ACode := .seq c30_8 c30_9
theorem s30_7 (h : wS fs out s.h.nx o30_8 s.t ⟨s.h.o, s.h.nx + 1⟩ fun s1 => wC fs out c30_9 s1 Q) : wC fs out c30_7 s Q := wC_seq (s30_8 h)
def c30_6 : ACode := .loop [1, 7, 8, 9] c30_7
theorem s30_6 (I : Nat → St → Prop) (n : Nat) (h0 : I n (keepOnly [1, 7, 8, 9] s)) (step : ∀ m s (Q' : AExit → St → Prop), I m s → (∀ m' s1, m' < m → I m' (keepOnly [1, 7, 8, 9] s1) → Q' .normal s1) → (∀ i s1, Q (.exit i) s1 → Q' (.exit i) s1) → (∀ s1, Q .ret s1 → Q' .ret s1) → wC fs out c30_7 s Q') : wC fs out c30_6 s Q := wC_loopQ I n h0 step
def c30_5 : ACode := .block 0 c30_6
theorem s30_5 (h : wC fs out c30_6 s fun e s1 => Q (if e = .exit 0 then .normal else e) s1) : wC fs out c30_5 s Q := wC_block h
def c30_3 : ACode := .seq c30_4 c30_5
theorem s30_3 (h : wS fs out s.h.nx o30_4 s.t ⟨s.h.o, s.h.nx + 3⟩ fun s1 => wC fs out c30_5 s1 Q) : wC fs out c30_3 s Q := wC_seq (s30_4 h)
def o30_22 : List (Nat × AOper) := (0, ⟨some 4, .mov (.k (.v (.one (.int .i64 0)))), none⟩) ::
   []
theorem h30_22 : wS fs out b o30_22 t h R = (wV fs out (b + 0) noT h (.mov (.k (.v (.one (.int .i64 0))))) fun x4_0 h => R ⟨(upd t 4 x4_0), h⟩) := by kernel_rfl
def c30_22 : ACode := .region (o30_22.map (·.2)) [0] []
theorem s30_22 (h : wS fs out s.h.nx o30_22 s.t ⟨s.h.o, s.h.nx + 1⟩ (Q .normal)) : wC fs out c30_22 s Q := wC_region rfl rfl h
def c30_21 : ACode := .seq c30_22 .ret
theorem s30_21 (h : wS fs out s.h.nx o30_22 s.t ⟨s.h.o, s.h.nx + 1⟩ fun s1 => wC fs out .ret s1 Q) : wC fs out c30_21 s Q := wC_seq (s30_22 h)
def c30_2 : ACode := .seq c30_3 c30_21
theorem s30_2 (h : wC fs out c30_3 s fun e s1 => match e with | .normal => wC fs out c30_21 s1 Q | e => Q e s1) : wC fs out c30_2 s Q := wC_seq h
def c30_0 : ACode := .seq c30_1 c30_2
theorem s30_0 (h : wS fs out s.h.nx o30_1 s.t ⟨s.h.o, s.h.nx + 1⟩ fun s1 => wC fs out c30_2 s1 Q) : wC fs out c30_0 s Q := wC_seq (s30_1 h)
def a30 : AFunc := ⟨2, [4], none, c30_0⟩
theorem t30 : tell Try.prog Try.f30 [([1, 7, 8, 9], [], []), ([1, 7, 8, 9], [], []), ([1, 4, 7, 8, 9], [], [])] = some a30 := by kernel_rfl
theorem ok30 : FuncOk Try.prog 30 a30 := tell_ok Try.func30 t30

/-- railplan/delay.within -/
def o31_1 : List (Nat × AOper) := (0, ⟨some 2, .mov (.k (.v (.one (.bool false)))), none⟩) ::
   []
theorem h31_1 : wS fs out b o31_1 t h R = (wV fs out (b + 0) noT h (.mov (.k (.v (.one (.bool false))))) fun x2_0 h => R ⟨(upd t 2 x2_0), h⟩) := by kernel_rfl
def c31_1 : ACode := .region (o31_1.map (·.2)) [0] []
theorem s31_1 (h : wS fs out s.h.nx o31_1 s.t ⟨s.h.o, s.h.nx + 1⟩ (Q .normal)) : wC fs out c31_1 s Q := wC_region rfl rfl h
def o31_3_2 : List (Nat × AOper) := (5, ⟨some 8, .pick (.t 5) (.t 7) (.k (.v (.one (.bool false)))), none⟩) ::
   (6, ⟨some 2, .mov (.t 8), none⟩) ::
   []
theorem h31_3_2 : wS fs out b o31_3_2 t h R = (wV fs out (b + 5) noT h (.pick (.k (t 5)) (.k (t 7)) (.k (.v (.one (.bool false))))) fun x8_0 h => wV fs out (b + 6) noT h (.mov (.k x8_0)) fun x2_1 h => R ⟨(upd (upd t 8 x8_0) 2 x2_1), h⟩) := by kernel_rfl
def o31_3_1g : List (Nat × AOper) := (3, ⟨some 6, .mov (.t 0), none⟩) ::
   (4, ⟨some 7, .bin .leq (.t 6) (.k (.v (.one (.int .i64 4194304)))), none⟩) ::
   []
theorem h31_3_1g : wS fs out b o31_3_1g t h R = (wV fs out (b + 3) noT h (.mov (.k (t 0))) fun x6_0 h => wV fs out (b + 4) noT h (.bin .leq (.k x6_0) (.k (.v (.one (.int .i64 4194304))))) fun x7_1 h => R ⟨(upd (upd t 6 x6_0) 7 x7_1), h⟩) := by kernel_rfl
def o31_3_1 : List (Nat × AOper) := grp 5 true o31_3_1g o31_3_2
theorem w31_3_1 : wS fs out b o31_3_1 t h R = onG (t 5) true (wS fs out b o31_3_1g (upd t 5 (.v (.one (.bool true)))) h fun s => wS fs out b o31_3_2 s.t s.h R) (wS fs out b o31_3_2 (upd (upd (upd t 5 (.v (.one (.bool false)))) 6 (.tup [])) 7 (.tup [])) h R) (wS fs out b o31_3_2 (upd (upd t 6 (.tup [])) 7 (.tup [])) h R) := wS_grpE rfl
def o31_3 : List (Nat × AOper) := (0, ⟨some 3, .mov (.t 0), none⟩) ::
   (1, ⟨some 4, .bin .geq (.t 3) (.k (.v (.one (.int .i64 0)))), none⟩) ::
   (2, ⟨some 5, .mov (.t 4), none⟩) ::
   o31_3_1
theorem h31_3 : wS fs out b o31_3 t h R = (wV fs out (b + 0) noT h (.mov (.k (t 0))) fun x3_0 h => wV fs out (b + 1) noT h (.bin .geq (.k x3_0) (.k (.v (.one (.int .i64 0))))) fun x4_1 h => wV fs out (b + 2) noT h (.mov (.k x4_1)) fun x5_2 h => wS fs out b o31_3_1 (upd (upd (upd t 3 x3_0) 4 x4_1) 5 x5_2) h R) := by kernel_rfl
def c31_3 : ACode := .region (o31_3.map (·.2)) [0, 1, 2, 3, 4, 5, 6] []
theorem s31_3 (h : wS fs out s.h.nx o31_3 s.t ⟨s.h.o, s.h.nx + 7⟩ (Q .normal)) : wC fs out c31_3 s Q := wC_region rfl rfl h
def c31_2 : ACode := .seq c31_3 .ret
theorem s31_2 (h : wS fs out s.h.nx o31_3 s.t ⟨s.h.o, s.h.nx + 7⟩ fun s1 => wC fs out .ret s1 Q) : wC fs out c31_2 s Q := wC_seq (s31_3 h)
def c31_0 : ACode := .seq c31_1 c31_2
theorem s31_0 (h : wS fs out s.h.nx o31_1 s.t ⟨s.h.o, s.h.nx + 1⟩ fun s1 => wC fs out c31_2 s1 Q) : wC fs out c31_0 s Q := wC_seq (s31_1 h)
def a31 : AFunc := ⟨1, [2], none, c31_0⟩
theorem t31 : tell Try.prog Try.f31 [] = some a31 := by kernel_rfl
theorem ok31 : FuncOk Try.prog 31 a31 := tell_ok Try.func31 t31

end Go.Proofs.Ythoicdnlcnppgaa.Fn
