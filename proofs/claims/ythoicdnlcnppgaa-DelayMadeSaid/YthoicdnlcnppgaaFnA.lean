/- Functions of the program, as the abstract machine's, and that they are. Conditions: none. -/
import Derived.Test.YthoicdnlcnppgaaAmCo
import Derived.Test.YthoicdnlcnppgaaAmEv
import Derived.Test.YthoicdnlcnppgaaProg
set_option linter.unusedVariables false
set_option linter.unusedSimpArgs false
namespace Go.Proofs.Ythoicdnlcnppgaa.Fn
open Go Go.Am
set_option maxRecDepth 100000
variable {fs : Nat → Option AFunc} {out : Rec} {s : St} {Q : AExit → St → Prop} {b : Nat} {t : Nat → T} {h : AH} {R : St → Prop}
/-- railplan/railplankeep2.Delay -/
def o12_1 : List (Nat × AOper) := (0, ⟨some 2, .mov (.k (.v (.one .nils))), none⟩) ::
   (1, ⟨some 3, .mov (.k (.v (.one .nils))), none⟩) ::
   (2, ⟨some 4, .mov (.k (.v (.one .nils))), none⟩) ::
   []
theorem h12_1 : wS fs out b o12_1 t h R = (wV fs out (b + 0) noT h (.mov (.k (.v (.one .nils)))) fun x2_0 h => wV fs out (b + 1) noT h (.mov (.k (.v (.one .nils)))) fun x3_1 h => wV fs out (b + 2) noT h (.mov (.k (.v (.one .nils)))) fun x4_2 h => R ⟨(upd (upd (upd t 2 x2_0) 3 x3_1) 4 x4_2), h⟩) := by kernel_rfl
def c12_1 : ACode := .region (o12_1.map (·.2)) [0, 1, 2] []
theorem s12_1 (h : wS fs out s.h.nx o12_1 s.t ⟨s.h.o, s.h.nx + 3⟩ (Q .normal)) : wC fs out c12_1 s Q := wC_region rfl rfl h
def o12_3_1 : List (Nat × AOper) := (2, ⟨some 5, .mov (.t 14), none⟩) ::
   []
theorem h12_3_1 : wS fs out b o12_3_1 t h R = (wV fs out (b + 2) noT h (.mov (.k (t 14))) fun x5_0 h => R ⟨(upd t 5 x5_0), h⟩) := by kernel_rfl
def o12_3 : List (Nat × AOper) := (0, ⟨some 13, .mov (.t 0), none⟩) ::
   (1, ⟨some 14, .call 26 [(.t 13)], none⟩) ::
   o12_3_1
theorem h12_3 : wS fs out b o12_3 t h R = (wV fs out (b + 0) noT h (.mov (.k (t 0))) fun x13_0 h => wV fs out (b + 1) noT h (.call 26 [(.k x13_0)]) fun x14_1 h => wS fs out b o12_3_1 (upd (upd t 13 x13_0) 14 x14_1) h R) := by kernel_rfl
def c12_3 : ACode := .region (o12_3.map (·.2)) [0, 1, 2] []
theorem s12_3 (h : wS fs out s.h.nx o12_3 s.t ⟨s.h.o, s.h.nx + 3⟩ (Q .normal)) : wC fs out c12_3 s Q := wC_region rfl rfl h
def o12_5 : List (Nat × AOper) := (0, ⟨some 6, .mov (.k (.v (.one .nils))), none⟩) ::
   []
theorem h12_5 : wS fs out b o12_5 t h R = (wV fs out (b + 0) noT h (.mov (.k (.v (.one .nils)))) fun x6_0 h => R ⟨(upd t 6 x6_0), h⟩) := by kernel_rfl
def c12_5 : ACode := .region (o12_5.map (·.2)) [0] []
theorem s12_5 (h : wS fs out s.h.nx o12_5 s.t ⟨s.h.o, s.h.nx + 1⟩ (Q .normal)) : wC fs out c12_5 s Q := wC_region rfl rfl h
def o12_7 : List (Nat × AOper) := (0, ⟨some 7, .mov (.k (.v (.one .nils))), none⟩) ::
   []
theorem h12_7 : wS fs out b o12_7 t h R = (wV fs out (b + 0) noT h (.mov (.k (.v (.one .nils)))) fun x7_0 h => R ⟨(upd t 7 x7_0), h⟩) := by kernel_rfl
def c12_7 : ACode := .region (o12_7.map (·.2)) [0] []
theorem s12_7 (h : wS fs out s.h.nx o12_7 s.t ⟨s.h.o, s.h.nx + 1⟩ (Q .normal)) : wC fs out c12_7 s Q := wC_region rfl rfl h
def o12_9 : List (Nat × AOper) := (0, ⟨some 8, .mov (.k (.v (.one .nils))), none⟩) ::
   []
theorem h12_9 : wS fs out b o12_9 t h R = (wV fs out (b + 0) noT h (.mov (.k (.v (.one .nils)))) fun x8_0 h => R ⟨(upd t 8 x8_0), h⟩) := by kernel_rfl
def c12_9 : ACode := .region (o12_9.map (·.2)) [0] []
theorem s12_9 (h : wS fs out s.h.nx o12_9 s.t ⟨s.h.o, s.h.nx + 1⟩ (Q .normal)) : wC fs out c12_9 s Q := wC_region rfl rfl h
def o12_11_1 : List (Nat × AOper) := (2, ⟨some 17, .bin .add (.k (.v (.one (.int .i64 1)))) (.t 16), none⟩) ::
   (3, ⟨some 9, .mov (.t 17), none⟩) ::
   []
theorem h12_11_1 : wS fs out b o12_11_1 t h R = (wV fs out (b + 2) noT h (.bin .add (.k (.v (.one (.int .i64 1)))) (.k (t 16))) fun x17_0 h => wV fs out (b + 3) noT h (.mov (.k x17_0)) fun x9_1 h => R ⟨(upd (upd t 17 x17_0) 9 x9_1), h⟩) := by kernel_rfl
def o12_11 : List (Nat × AOper) := (0, ⟨some 15, .mov (.t 5), none⟩) ::
   (1, ⟨some 16, .call 27 [(.t 15), (.k (.v (.one (.int .i64 6))))], none⟩) ::
   o12_11_1
theorem h12_11 : wS fs out b o12_11 t h R = (wV fs out (b + 0) noT h (.mov (.k (t 5))) fun x15_0 h => wV fs out (b + 1) noT h (.call 27 [(.k x15_0), (.k (.v (.one (.int .i64 6))))]) fun x16_1 h => wS fs out b o12_11_1 (upd (upd t 15 x15_0) 16 x16_1) h R) := by kernel_rfl
def c12_11 : ACode := .region (o12_11.map (·.2)) [0, 1, 2, 3] []
theorem s12_11 (h : wS fs out s.h.nx o12_11 s.t ⟨s.h.o, s.h.nx + 4⟩ (Q .normal)) : wC fs out c12_11 s Q := wC_region rfl rfl h
def o12_14 : List (Nat × AOper) := (0, ⟨some 10, .mov (.k (.v (.one (.int .i64 0)))), none⟩) ::
   []
theorem h12_14 : wS fs out b o12_14 t h R = (wV fs out (b + 0) noT h (.mov (.k (.v (.one (.int .i64 0))))) fun x10_0 h => R ⟨(upd t 10 x10_0), h⟩) := by kernel_rfl
def c12_14 : ACode := .region (o12_14.map (·.2)) [0] []
theorem s12_14 (h : wS fs out s.h.nx o12_14 s.t ⟨s.h.o, s.h.nx + 1⟩ (Q .normal)) : wC fs out c12_14 s Q := wC_region rfl rfl h
def o12_19 : List (Nat × AOper) := (0, ⟨some 18, .mov (.t 10), none⟩) ::
   (1, ⟨some 19, .mov (.t 9), none⟩) ::
   (2, ⟨some 20, .bin .lss (.t 18) (.t 19), none⟩) ::
   []
theorem h12_19 : wS fs out b o12_19 t h R = (wV fs out (b + 0) noT h (.mov (.k (t 10))) fun x18_0 h => wV fs out (b + 1) noT h (.mov (.k (t 9))) fun x19_1 h => wV fs out (b + 2) noT h (.bin .lss (.k x18_0) (.k x19_1)) fun x20_2 h => R ⟨(upd (upd (upd t 18 x18_0) 19 x19_1) 20 x20_2), h⟩) := by kernel_rfl
def c12_19 : ACode := .region (o12_19.map (·.2)) [0, 1, 2] []
theorem s12_19 (h : wS fs out s.h.nx o12_19 s.t ⟨s.h.o, s.h.nx + 3⟩ (Q .normal)) : wC fs out c12_19 s Q := wC_region rfl rfl h
def c12_20 : ACode := .cond (.t 20) .skip (.exit 0) [5, 6, 7, 8, 9, 10]
theorem s12_20 (h : onC (s.t 20) (Q .normal (keepOnly [5, 6, 7, 8, 9, 10] s)) (Q (.exit 0) (keepOnly [5, 6, 7, 8, 9, 10] s))) : wC fs out c12_20 s Q := wC_condC (by first | exact h | (simp only [wC_skip, wC_exit, wC_ret]; exact h))
def c12_18 : ACode := .seq c12_19 c12_20
theorem s12_18 (h : wS fs out s.h.nx o12_19 s.t ⟨s.h.o, s.h.nx + 3⟩ fun s1 => wC fs out c12_20 s1 Q) : wC fs out c12_18 s Q := wC_seq (s12_19 h)
def o12_24_3 : List (Nat × AOper) := (12, ⟨some 6, .mov (.t 34), none⟩) ::
   []
theorem h12_24_3 : wS fs out b o12_24_3 t h R = (wV fs out (b + 12) noT h (.mov (.k (t 34))) fun x6_0 h => R ⟨(upd t 6 x6_0), h⟩) := by kernel_rfl
def o12_24_2 : List (Nat × AOper) := (8, ⟨some 31, .bin .eql (.t 30) (.k (.v (.one (.int .i64 0)))), none⟩) ::
   (9, ⟨some 32, .build [(.int .i64 0), (.bool false)] [(0, 1, (.t 28)), (1, 1, (.t 31))], none⟩) ::
   (10, ⟨some 33, .bsl 33 2 1 [(.int .i64 0), (.bool false)] [(0, 2, (.t 32))], none⟩) ::
   (11, ⟨some 34, .app 33 2 16 (.t 23) (.t 33), none⟩) ::
   o12_24_3
theorem h12_24_2 : wS fs out b o12_24_2 t h R = (wV fs out (b + 8) noT h (.bin .eql (.k (t 30)) (.k (.v (.one (.int .i64 0))))) fun x31_0 h => wV fs out (b + 9) noT h (.build [(.int .i64 0), (.bool false)] [(0, 1, (.k (t 28))), (1, 1, (.k x31_0))]) fun x32_1 h => wV fs out (b + 10) noT h (.bsl 33 2 1 [(.int .i64 0), (.bool false)] [(0, 2, (.k x32_1))]) fun x33_2 h => wV fs out (b + 11) noT h (.app 33 2 16 (.k (t 23)) (.k x33_2)) fun x34_3 h => wS fs out b o12_24_3 (upd (upd (upd (upd t 31 x31_0) 32 x32_1) 33 x33_2) 34 x34_3) h R) := by kernel_rfl
def o12_24_1 : List (Nat × AOper) := (5, ⟨some 28, .bin .add (.t 25) (.t 27), none⟩) ::
   (6, ⟨some 29, .mov (.t 5), none⟩) ::
   (7, ⟨some 30, .call 27 [(.t 29), (.k (.v (.one (.int .i64 2))))], none⟩) ::
   o12_24_2
theorem h12_24_1 : wS fs out b o12_24_1 t h R = (wV fs out (b + 5) noT h (.bin .add (.k (t 25)) (.k (t 27))) fun x28_0 h => wV fs out (b + 6) noT h (.mov (.k (t 5))) fun x29_1 h => wV fs out (b + 7) noT h (.call 27 [(.k x29_1), (.k (.v (.one (.int .i64 2))))]) fun x30_2 h => wS fs out b o12_24_2 (upd (upd (upd t 28 x28_0) 29 x29_1) 30 x30_2) h R) := by kernel_rfl
def o12_24 : List (Nat × AOper) := (0, ⟨some 23, .mov (.t 6), none⟩) ::
   (1, ⟨some 24, .mov (.t 10), none⟩) ::
   (2, ⟨some 25, .bin .mul (.k (.v (.one (.int .i64 20)))) (.t 24), none⟩) ::
   (3, ⟨some 26, .mov (.t 5), none⟩) ::
   (4, ⟨some 27, .call 27 [(.t 26), (.k (.v (.one (.int .i64 30))))], none⟩) ::
   o12_24_1
theorem h12_24 : wS fs out b o12_24 t h R = (wV fs out (b + 0) noT h (.mov (.k (t 6))) fun x23_0 h => wV fs out (b + 1) noT h (.mov (.k (t 10))) fun x24_1 h => wV fs out (b + 2) noT h (.bin .mul (.k (.v (.one (.int .i64 20)))) (.k x24_1)) fun x25_2 h => wV fs out (b + 3) noT h (.mov (.k (t 5))) fun x26_3 h => wV fs out (b + 4) noT h (.call 27 [(.k x26_3), (.k (.v (.one (.int .i64 30))))]) fun x27_4 h => wS fs out b o12_24_1 (upd (upd (upd (upd (upd t 23 x23_0) 24 x24_1) 25 x25_2) 26 x26_3) 27 x27_4) h R) := by kernel_rfl
def c12_24 : ACode := .region (o12_24.map (·.2)) [0, 1, 2, 3, 4, 5, 6, 7, 8, 9, 10, 11, 12] []
theorem s12_24 (h : wS fs out s.h.nx o12_24 s.t ⟨s.h.o, s.h.nx + 13⟩ (Q .normal)) : wC fs out c12_24 s Q := wC_region rfl rfl h
def o12_27_1 : List (Nat × AOper) := (2, ⟨some 11, .mov (.t 36), none⟩) ::
   []
theorem h12_27_1 : wS fs out b o12_27_1 t h R = (wV fs out (b + 2) noT h (.mov (.k (t 36))) fun x11_0 h => R ⟨(upd t 11 x11_0), h⟩) := by kernel_rfl
def o12_27 : List (Nat × AOper) := (0, ⟨some 35, .mov (.t 5), none⟩) ::
   (1, ⟨some 36, .call 27 [(.t 35), (.k (.v (.one (.int .i64 3))))], none⟩) ::
   o12_27_1
theorem h12_27 : wS fs out b o12_27 t h R = (wV fs out (b + 0) noT h (.mov (.k (t 5))) fun x35_0 h => wV fs out (b + 1) noT h (.call 27 [(.k x35_0), (.k (.v (.one (.int .i64 3))))]) fun x36_1 h => wS fs out b o12_27_1 (upd (upd t 35 x35_0) 36 x36_1) h R) := by kernel_rfl
def c12_27 : ACode := .region (o12_27.map (·.2)) [0, 1, 2] []
theorem s12_27 (h : wS fs out s.h.nx o12_27 s.t ⟨s.h.o, s.h.nx + 3⟩ (Q .normal)) : wC fs out c12_27 s Q := wC_region rfl rfl h
def o12_32_2 : List (Nat × AOper) := (5, ⟨some 42, .pick (.t 39) (.t 41) (.k (.v (.one (.bool false)))), none⟩) ::
   []
theorem h12_32_2 : wS fs out b o12_32_2 t h R = (wV fs out (b + 5) noT h (.pick (.k (t 39)) (.k (t 41)) (.k (.v (.one (.bool false))))) fun x42_0 h => R ⟨(upd t 42 x42_0), h⟩) := by kernel_rfl
def o12_32_1g : List (Nat × AOper) := (3, ⟨some 40, .mov (.t 10), none⟩) ::
   (4, ⟨some 41, .bin .gtr (.t 40) (.k (.v (.one (.int .i64 0)))), none⟩) ::
   []
theorem h12_32_1g : wS fs out b o12_32_1g t h R = (wV fs out (b + 3) noT h (.mov (.k (t 10))) fun x40_0 h => wV fs out (b + 4) noT h (.bin .gtr (.k x40_0) (.k (.v (.one (.int .i64 0))))) fun x41_1 h => R ⟨(upd (upd t 40 x40_0) 41 x41_1), h⟩) := by kernel_rfl
def o12_32_1 : List (Nat × AOper) := grp 39 true o12_32_1g o12_32_2
theorem w12_32_1 : wS fs out b o12_32_1 t h R = onG (t 39) true (wS fs out b o12_32_1g (upd t 39 (.v (.one (.bool true)))) h fun s => wS fs out b o12_32_2 s.t s.h R) (wS fs out b o12_32_2 (upd (upd (upd t 39 (.v (.one (.bool false)))) 40 (.tup [])) 41 (.tup [])) h R) (wS fs out b o12_32_2 (upd (upd t 40 (.tup [])) 41 (.tup [])) h R) := wS_grpE rfl
def o12_32 : List (Nat × AOper) := (0, ⟨some 37, .mov (.t 11), none⟩) ::
   (1, ⟨some 38, .bin .gtr (.t 37) (.k (.v (.one (.int .i64 0)))), none⟩) ::
   (2, ⟨some 39, .mov (.t 38), none⟩) ::
   o12_32_1
theorem h12_32 : wS fs out b o12_32 t h R = (wV fs out (b + 0) noT h (.mov (.k (t 11))) fun x37_0 h => wV fs out (b + 1) noT h (.bin .gtr (.k x37_0) (.k (.v (.one (.int .i64 0))))) fun x38_1 h => wV fs out (b + 2) noT h (.mov (.k x38_1)) fun x39_2 h => wS fs out b o12_32_1 (upd (upd (upd t 37 x37_0) 38 x38_1) 39 x39_2) h R) := by kernel_rfl
def c12_32 : ACode := .region (o12_32.map (·.2)) [0, 1, 2, 3, 4, 5] []
theorem s12_32 (h : wS fs out s.h.nx o12_32 s.t ⟨s.h.o, s.h.nx + 6⟩ (Q .normal)) : wC fs out c12_32 s Q := wC_region rfl rfl h
def c12_33 : ACode := .cond (.t 42) .skip (.exit 2) [5, 6, 7, 8, 9, 10, 11]
theorem s12_33 (h : onC (s.t 42) (Q .normal (keepOnly [5, 6, 7, 8, 9, 10, 11] s)) (Q (.exit 2) (keepOnly [5, 6, 7, 8, 9, 10, 11] s))) : wC fs out c12_33 s Q := wC_condC (by first | exact h | (simp only [wC_skip, wC_exit, wC_ret]; exact h))
def c12_31 : ACode := .seq c12_32 c12_33
theorem s12_31 (h : wS fs out s.h.nx o12_32 s.t ⟨s.h.o, s.h.nx + 6⟩ fun s1 => wC fs out c12_33 s1 Q) : wC fs out c12_31 s Q := wC_seq (s12_32 h)
def o12_37_4 : List (Nat × AOper) := (13, ⟨some 7, .mov (.t 57), none⟩) ::
   []
theorem h12_37_4 : wS fs out b o12_37_4 t h R = (wV fs out (b + 13) noT h (.mov (.k (t 57))) fun x7_0 h => R ⟨(upd t 7 x7_0), h⟩) := by kernel_rfl
def o12_37_3 : List (Nat × AOper) := (9, ⟨some 54, .bin .sub (.t 53) (.k (.v (.one (.int .i64 25)))), none⟩) ::
   (10, ⟨some 55, .build [(.int .i64 0), (.int .i64 0), (.int .i64 0), (.int .i64 0)] [(0, 1, (.t 48)), (1, 1, (.t 49)), (2, 1, (.t 51)), (3, 1, (.t 54))], none⟩) ::
   (11, ⟨some 56, .bsl 35 4 1 [(.int .i64 0), (.int .i64 0), (.int .i64 0), (.int .i64 0)] [(0, 4, (.t 55))], none⟩) ::
   (12, ⟨some 57, .app 35 4 32 (.t 45) (.t 56), none⟩) ::
   o12_37_4
theorem h12_37_3 : wS fs out b o12_37_3 t h R = (wV fs out (b + 9) noT h (.bin .sub (.k (t 53)) (.k (.v (.one (.int .i64 25))))) fun x54_0 h => wV fs out (b + 10) noT h (.build [(.int .i64 0), (.int .i64 0), (.int .i64 0), (.int .i64 0)] [(0, 1, (.k (t 48))), (1, 1, (.k (t 49))), (2, 1, (.k (t 51))), (3, 1, (.k x54_0))]) fun x55_1 h => wV fs out (b + 11) noT h (.bsl 35 4 1 [(.int .i64 0), (.int .i64 0), (.int .i64 0), (.int .i64 0)] [(0, 4, (.k x55_1))]) fun x56_2 h => wV fs out (b + 12) noT h (.app 35 4 32 (.k (t 45)) (.k x56_2)) fun x57_3 h => wS fs out b o12_37_4 (upd (upd (upd (upd t 54 x54_0) 55 x55_1) 56 x56_2) 57 x57_3) h R) := by kernel_rfl
def o12_37_2 : List (Nat × AOper) := (7, ⟨some 52, .mov (.t 5), none⟩) ::
   (8, ⟨some 53, .call 27 [(.t 52), (.k (.v (.one (.int .i64 50))))], none⟩) ::
   o12_37_3
theorem h12_37_2 : wS fs out b o12_37_2 t h R = (wV fs out (b + 7) noT h (.mov (.k (t 5))) fun x52_0 h => wV fs out (b + 8) noT h (.call 27 [(.k x52_0), (.k (.v (.one (.int .i64 50))))]) fun x53_1 h => wS fs out b o12_37_3 (upd (upd t 52 x52_0) 53 x53_1) h R) := by kernel_rfl
def o12_37_1 : List (Nat × AOper) := (4, ⟨some 49, .mov (.t 10), none⟩) ::
   (5, ⟨some 50, .mov (.t 5), none⟩) ::
   (6, ⟨some 51, .call 27 [(.t 50), (.k (.v (.one (.int .i64 40))))], none⟩) ::
   o12_37_2
theorem h12_37_1 : wS fs out b o12_37_1 t h R = (wV fs out (b + 4) noT h (.mov (.k (t 10))) fun x49_0 h => wV fs out (b + 5) noT h (.mov (.k (t 5))) fun x50_1 h => wV fs out (b + 6) noT h (.call 27 [(.k x50_1), (.k (.v (.one (.int .i64 40))))]) fun x51_2 h => wS fs out b o12_37_2 (upd (upd (upd t 49 x49_0) 50 x50_1) 51 x51_2) h R) := by kernel_rfl
def o12_37 : List (Nat × AOper) := (0, ⟨some 45, .mov (.t 7), none⟩) ::
   (1, ⟨some 46, .mov (.t 5), none⟩) ::
   (2, ⟨some 47, .mov (.t 10), none⟩) ::
   (3, ⟨some 48, .call 27 [(.t 46), (.t 47)], none⟩) ::
   o12_37_1
theorem h12_37 : wS fs out b o12_37 t h R = (wV fs out (b + 0) noT h (.mov (.k (t 7))) fun x45_0 h => wV fs out (b + 1) noT h (.mov (.k (t 5))) fun x46_1 h => wV fs out (b + 2) noT h (.mov (.k (t 10))) fun x47_2 h => wV fs out (b + 3) noT h (.call 27 [(.k x46_1), (.k x47_2)]) fun x48_3 h => wS fs out b o12_37_1 (upd (upd (upd (upd t 45 x45_0) 46 x46_1) 47 x47_2) 48 x48_3) h R) := by kernel_rfl
def c12_37 : ACode := .region (o12_37.map (·.2)) [0, 1, 2, 3, 4, 5, 6, 7, 8, 9, 10, 11, 12, 13] []
theorem s12_37 (h : wS fs out s.h.nx o12_37 s.t ⟨s.h.o, s.h.nx + 14⟩ (Q .normal)) : wC fs out c12_37 s Q := wC_region rfl rfl h
def o12_39 : List (Nat × AOper) := (0, ⟨some 58, .mov (.t 7), none⟩) ::
   (1, ⟨some 59, .mov (.t 7), none⟩) ::
   (2, ⟨some 60, .len (.t 59), none⟩) ::
   (3, ⟨some 61, .bin .sub (.t 60) (.k (.v (.one (.int .i64 1)))), none⟩) ::
   (4, ⟨some 62, .iadr 4 (.t 58) (.t 61), none⟩) ::
   (5, ⟨some 12, .mov (.t 62), none⟩) ::
   []
theorem h12_39 : wS fs out b o12_39 t h R = (wV fs out (b + 0) noT h (.mov (.k (t 7))) fun x58_0 h => wV fs out (b + 1) noT h (.mov (.k (t 7))) fun x59_1 h => wV fs out (b + 2) noT h (.len (.k x59_1)) fun x60_2 h => wV fs out (b + 3) noT h (.bin .sub (.k x60_2) (.k (.v (.one (.int .i64 1))))) fun x61_3 h => wV fs out (b + 4) noT h (.iadr 4 (.k x58_0) (.k x61_3)) fun x62_4 h => wV fs out (b + 5) noT h (.mov (.k x62_4)) fun x12_5 h => R ⟨(upd (upd (upd (upd (upd (upd t 58 x58_0) 59 x59_1) 60 x60_2) 61 x61_3) 62 x62_4) 12 x12_5), h⟩) := by kernel_rfl
def c12_39 : ACode := .region (o12_39.map (·.2)) [0, 1, 2, 3, 4, 5] []
theorem s12_39 (h : wS fs out s.h.nx o12_39 s.t ⟨s.h.o, s.h.nx + 6⟩ (Q .normal)) : wC fs out c12_39 s Q := wC_region rfl rfl h
def o12_41 : List (Nat × AOper) := (0, ⟨some 63, .mov (.t 12), none⟩) ::
   (1, ⟨some 64, .nilchk (.t 63), none⟩) ::
   (2, ⟨some 65, .fadr 3 (.t 64), none⟩) ::
   (3, ⟨some 66, .load none (.t 65), none⟩) ::
   (4, ⟨some 67, .bin .lss (.t 66) (.k (.v (.one (.int .i64 0)))), none⟩) ::
   []
theorem h12_41 : wS fs out b o12_41 t h R = (wV fs out (b + 0) noT h (.mov (.k (t 12))) fun x63_0 h => wV fs out (b + 1) noT h (.nilchk (.k x63_0)) fun x64_1 h => wV fs out (b + 2) noT h (.fadr 3 (.k x64_1)) fun x65_2 h => wV fs out (b + 3) noT h (.load none (.k x65_2)) fun x66_3 h => wV fs out (b + 4) noT h (.bin .lss (.k x66_3) (.k (.v (.one (.int .i64 0))))) fun x67_4 h => R ⟨(upd (upd (upd (upd (upd t 63 x63_0) 64 x64_1) 65 x65_2) 66 x66_3) 67 x67_4), h⟩) := by kernel_rfl
def c12_41 : ACode := .region (o12_41.map (·.2)) [0, 1, 2, 3, 4] []
theorem s12_41 (h : wS fs out s.h.nx o12_41 s.t ⟨s.h.o, s.h.nx + 5⟩ (Q .normal)) : wC fs out c12_41 s Q := wC_region rfl rfl h
def o12_43 : List (Nat × AOper) := (0, ⟨some 68, .mov (.t 12), none⟩) ::
   (1, ⟨some 69, .nilchk (.t 68), none⟩) ::
   (2, ⟨some 70, .fadr 3 (.t 69), none⟩) ::
   (3, ⟨none, .store 1 (.t 70) (.k (.v (.one (.int .i64 (-1))))), none⟩) ::
   []
theorem h12_43 : wS fs out b o12_43 t h R = (wV fs out (b + 0) noT h (.mov (.k (t 12))) fun x68_0 h => wV fs out (b + 1) noT h (.nilchk (.k x68_0)) fun x69_1 h => wV fs out (b + 2) noT h (.fadr 3 (.k x69_1)) fun x70_2 h => wV fs out (b + 3) noT h (.store 1 (.k x70_2) (.k (.v (.one (.int .i64 (-1)))))) fun _ h => R ⟨(upd (upd (upd t 68 x68_0) 69 x69_1) 70 x70_2), h⟩) := by kernel_rfl
def c12_43 : ACode := .region (o12_43.map (·.2)) [0, 1, 2, 3] []
theorem s12_43 (h : wS fs out s.h.nx o12_43 s.t ⟨s.h.o, s.h.nx + 4⟩ (Q .normal)) : wC fs out c12_43 s Q := wC_region rfl rfl h
def c12_42 : ACode := .cond (.t 67) c12_43 .skip [5, 6, 7, 8, 9, 10, 11]
theorem s12_42 (h : onC (s.t 67) (wC fs out c12_43 s fun e s1 => Q e (keepOnly [5, 6, 7, 8, 9, 10, 11] s1)) (Q .normal (keepOnly [5, 6, 7, 8, 9, 10, 11] s))) : wC fs out c12_42 s Q := wC_condC (by first | exact h | (simp only [wC_skip, wC_exit, wC_ret]; exact h))
def c12_40 : ACode := .seq c12_41 c12_42
theorem s12_40 (h : wS fs out s.h.nx o12_41 s.t ⟨s.h.o, s.h.nx + 5⟩ fun s1 => wC fs out c12_42 s1 Q) : wC fs out c12_40 s Q := wC_seq (s12_41 h)
def c12_38 : ACode := .seq c12_39 c12_40
theorem s12_38 (h : wS fs out s.h.nx o12_39 s.t ⟨s.h.o, s.h.nx + 6⟩ fun s1 => wC fs out c12_40 s1 Q) : wC fs out c12_38 s Q := wC_seq (s12_39 h)
def c12_36 : ACode := .seq c12_37 c12_38
theorem s12_36 (h : wS fs out s.h.nx o12_37 s.t ⟨s.h.o, s.h.nx + 14⟩ fun s1 => wC fs out c12_38 s1 Q) : wC fs out c12_36 s Q := wC_seq (s12_37 h)
def c12_35 : ACode := .block 3 c12_36
theorem s12_35 (h : wC fs out c12_36 s fun e s1 => Q (if e = .exit 3 then .normal else e) s1) : wC fs out c12_35 s Q := wC_block h
def o12_44 : List (Nat × AOper) := (0, ⟨some 43, .mov (.t 11), none⟩) ::
   (1, ⟨some 44, .bin .sub (.t 43) (.k (.v (.one (.int .i64 1)))), none⟩) ::
   (2, ⟨some 11, .mov (.t 44), none⟩) ::
   []
theorem h12_44 : wS fs out b o12_44 t h R = (wV fs out (b + 0) noT h (.mov (.k (t 11))) fun x43_0 h => wV fs out (b + 1) noT h (.bin .sub (.k x43_0) (.k (.v (.one (.int .i64 1))))) fun x44_1 h => wV fs out (b + 2) noT h (.mov (.k x44_1)) fun x11_2 h => R ⟨(upd (upd (upd t 43 x43_0) 44 x44_1) 11 x11_2), h⟩) := by kernel_rfl
def c12_44 : ACode := .region (o12_44.map (·.2)) [0, 1, 2] []
theorem s12_44 (h : wS fs out s.h.nx o12_44 s.t ⟨s.h.o, s.h.nx + 3⟩ (Q .normal)) : wC fs out c12_44 s Q := wC_region rfl rfl h
def c12_34 : ACode := .seq c12_35 c12_44
theorem s12_34 (h : wC fs out c12_35 s fun e s1 => match e with | .normal => wC fs out c12_44 s1 Q | e => Q e s1) : wC fs out c12_34 s Q := wC_seq h
def c12_30 : ACode := .seq c12_31 c12_34
theorem s12_30 (h : wC fs out c12_31 s fun e s1 => match e with | .normal => wC fs out c12_34 s1 Q | e => Q e s1) : wC fs out c12_30 s Q := wC_seq h
def c12_29 : ACode := .loop [5, 6, 7, 8, 9, 10, 11] c12_30
theorem s12_29 (I : Nat → St → Prop) (n : Nat) (h0 : I n (keepOnly [5, 6, 7, 8, 9, 10, 11] s)) (step : ∀ m s (Q' : AExit → St → Prop), I m s → (∀ m' s1, m' < m → I m' (keepOnly [5, 6, 7, 8, 9, 10, 11] s1) → Q' .normal s1) → (∀ i s1, Q (.exit i) s1 → Q' (.exit i) s1) → (∀ s1, Q .ret s1 → Q' .ret s1) → wC fs out c12_30 s Q') : wC fs out c12_29 s Q := wC_loopQ I n h0 step
def c12_28 : ACode := .block 2 c12_29
theorem s12_28 (h : wC fs out c12_29 s fun e s1 => Q (if e = .exit 2 then .normal else e) s1) : wC fs out c12_28 s Q := wC_block h
def c12_26 : ACode := .seq c12_27 c12_28
theorem s12_26 (h : wS fs out s.h.nx o12_27 s.t ⟨s.h.o, s.h.nx + 3⟩ fun s1 => wC fs out c12_28 s1 Q) : wC fs out c12_26 s Q := wC_seq (s12_27 h)
def o12_46_1 : List (Nat × AOper) := (2, ⟨some 73, .bin .eql (.t 72) (.k (.v (.one (.int .i64 0)))), none⟩) ::
   []
theorem h12_46_1 : wS fs out b o12_46_1 t h R = (wV fs out (b + 2) noT h (.bin .eql (.k (t 72)) (.k (.v (.one (.int .i64 0))))) fun x73_0 h => R ⟨(upd t 73 x73_0), h⟩) := by kernel_rfl
def o12_46 : List (Nat × AOper) := (0, ⟨some 71, .mov (.t 5), none⟩) ::
   (1, ⟨some 72, .call 27 [(.t 71), (.k (.v (.one (.int .i64 3))))], none⟩) ::
   o12_46_1
theorem h12_46 : wS fs out b o12_46 t h R = (wV fs out (b + 0) noT h (.mov (.k (t 5))) fun x71_0 h => wV fs out (b + 1) noT h (.call 27 [(.k x71_0), (.k (.v (.one (.int .i64 3))))]) fun x72_1 h => wS fs out b o12_46_1 (upd (upd t 71 x71_0) 72 x72_1) h R) := by kernel_rfl
def c12_46 : ACode := .region (o12_46.map (·.2)) [0, 1, 2] []
theorem s12_46 (h : wS fs out s.h.nx o12_46 s.t ⟨s.h.o, s.h.nx + 3⟩ (Q .normal)) : wC fs out c12_46 s Q := wC_region rfl rfl h
def o12_48_2 : List (Nat × AOper) := (7, ⟨some 8, .mov (.t 80), none⟩) ::
   []
theorem h12_48_2 : wS fs out b o12_48_2 t h R = (wV fs out (b + 7) noT h (.mov (.k (t 80))) fun x8_0 h => R ⟨(upd t 8 x8_0), h⟩) := by kernel_rfl
def o12_48_1 : List (Nat × AOper) := (4, ⟨some 78, .build [(.int .i64 0), (.int .i64 0)] [(0, 1, (.t 75)), (1, 1, (.t 77))], none⟩) ::
   (5, ⟨some 79, .bsl 39 2 1 [(.int .i64 0), (.int .i64 0)] [(0, 2, (.t 78))], none⟩) ::
   (6, ⟨some 80, .app 39 2 16 (.t 74) (.t 79), none⟩) ::
   o12_48_2
theorem h12_48_1 : wS fs out b o12_48_1 t h R = (wV fs out (b + 4) noT h (.build [(.int .i64 0), (.int .i64 0)] [(0, 1, (.k (t 75))), (1, 1, (.k (t 77)))]) fun x78_0 h => wV fs out (b + 5) noT h (.bsl 39 2 1 [(.int .i64 0), (.int .i64 0)] [(0, 2, (.k x78_0))]) fun x79_1 h => wV fs out (b + 6) noT h (.app 39 2 16 (.k (t 74)) (.k x79_1)) fun x80_2 h => wS fs out b o12_48_2 (upd (upd (upd t 78 x78_0) 79 x79_1) 80 x80_2) h R) := by kernel_rfl
def o12_48 : List (Nat × AOper) := (0, ⟨some 74, .mov (.t 8), none⟩) ::
   (1, ⟨some 75, .mov (.t 10), none⟩) ::
   (2, ⟨some 76, .mov (.t 5), none⟩) ::
   (3, ⟨some 77, .call 27 [(.t 76), (.k (.v (.one (.int .i64 60))))], none⟩) ::
   o12_48_1
theorem h12_48 : wS fs out b o12_48 t h R = (wV fs out (b + 0) noT h (.mov (.k (t 8))) fun x74_0 h => wV fs out (b + 1) noT h (.mov (.k (t 10))) fun x75_1 h => wV fs out (b + 2) noT h (.mov (.k (t 5))) fun x76_2 h => wV fs out (b + 3) noT h (.call 27 [(.k x76_2), (.k (.v (.one (.int .i64 60))))]) fun x77_3 h => wS fs out b o12_48_1 (upd (upd (upd (upd t 74 x74_0) 75 x75_1) 76 x76_2) 77 x77_3) h R) := by kernel_rfl
def c12_48 : ACode := .region (o12_48.map (·.2)) [0, 1, 2, 3, 4, 5, 6, 7] []
theorem s12_48 (h : wS fs out s.h.nx o12_48 s.t ⟨s.h.o, s.h.nx + 8⟩ (Q .normal)) : wC fs out c12_48 s Q := wC_region rfl rfl h
def c12_47 : ACode := .cond (.t 73) c12_48 .skip [5, 6, 7, 8, 9, 10]
theorem s12_47 (h : onC (s.t 73) (wC fs out c12_48 s fun e s1 => Q e (keepOnly [5, 6, 7, 8, 9, 10] s1)) (Q .normal (keepOnly [5, 6, 7, 8, 9, 10] s))) : wC fs out c12_47 s Q := wC_condC (by first | exact h | (simp only [wC_skip, wC_exit, wC_ret]; exact h))
def c12_45 : ACode := .seq c12_46 c12_47
theorem s12_45 (h : wS fs out s.h.nx o12_46 s.t ⟨s.h.o, s.h.nx + 3⟩ fun s1 => wC fs out c12_47 s1 Q) : wC fs out c12_45 s Q := wC_seq (s12_46 h)
def c12_25 : ACode := .seq c12_26 c12_45
theorem s12_25 (h : wC fs out c12_26 s fun e s1 => match e with | .normal => wC fs out c12_45 s1 Q | e => Q e s1) : wC fs out c12_25 s Q := wC_seq h
def c12_23 : ACode := .seq c12_24 c12_25
theorem s12_23 (h : wS fs out s.h.nx o12_24 s.t ⟨s.h.o, s.h.nx + 13⟩ fun s1 => wC fs out c12_25 s1 Q) : wC fs out c12_23 s Q := wC_seq (s12_24 h)
def c12_22 : ACode := .block 1 c12_23
theorem s12_22 (h : wC fs out c12_23 s fun e s1 => Q (if e = .exit 1 then .normal else e) s1) : wC fs out c12_22 s Q := wC_block h
def o12_49 : List (Nat × AOper) := (0, ⟨some 21, .mov (.t 10), none⟩) ::
   (1, ⟨some 22, .bin .add (.t 21) (.k (.v (.one (.int .i64 1)))), none⟩) ::
   (2, ⟨some 10, .mov (.t 22), none⟩) ::
   []
theorem h12_49 : wS fs out b o12_49 t h R = (wV fs out (b + 0) noT h (.mov (.k (t 10))) fun x21_0 h => wV fs out (b + 1) noT h (.bin .add (.k x21_0) (.k (.v (.one (.int .i64 1))))) fun x22_1 h => wV fs out (b + 2) noT h (.mov (.k x22_1)) fun x10_2 h => R ⟨(upd (upd (upd t 21 x21_0) 22 x22_1) 10 x10_2), h⟩) := by kernel_rfl
def c12_49 : ACode := .region (o12_49.map (·.2)) [0, 1, 2] []
theorem s12_49 (h : wS fs out s.h.nx o12_49 s.t ⟨s.h.o, s.h.nx + 3⟩ (Q .normal)) : wC fs out c12_49 s Q := wC_region rfl rfl h
def c12_21 : ACode := .seq c12_22 c12_49
theorem s12_21 (h : wC fs out c12_22 s fun e s1 => match e with | .normal => wC fs out c12_49 s1 Q | e => Q e s1) : wC fs out c12_21 s Q := wC_seq h
def c12_17 : ACode := .seq c12_18 c12_21
theorem s12_17 (h : wC fs out c12_18 s fun e s1 => match e with | .normal => wC fs out c12_21 s1 Q | e => Q e s1) : wC fs out c12_17 s Q := wC_seq h
def c12_16 : ACode := .loop [5, 6, 7, 8, 9, 10] c12_17
theorem s12_16 (I : Nat → St → Prop) (n : Nat) (h0 : I n (keepOnly [5, 6, 7, 8, 9, 10] s)) (step : ∀ m s (Q' : AExit → St → Prop), I m s → (∀ m' s1, m' < m → I m' (keepOnly [5, 6, 7, 8, 9, 10] s1) → Q' .normal s1) → (∀ i s1, Q (.exit i) s1 → Q' (.exit i) s1) → (∀ s1, Q .ret s1 → Q' .ret s1) → wC fs out c12_17 s Q') : wC fs out c12_16 s Q := wC_loopQ I n h0 step
def c12_15 : ACode := .block 0 c12_16
theorem s12_15 (h : wC fs out c12_16 s fun e s1 => Q (if e = .exit 0 then .normal else e) s1) : wC fs out c12_15 s Q := wC_block h
def c12_13 : ACode := .seq c12_14 c12_15
theorem s12_13 (h : wS fs out s.h.nx o12_14 s.t ⟨s.h.o, s.h.nx + 1⟩ fun s1 => wC fs out c12_15 s1 Q) : wC fs out c12_13 s Q := wC_seq (s12_14 h)
def o12_51 : List (Nat × AOper) := (0, ⟨some 81, .mov (.t 6), none⟩) ::
   (1, ⟨some 82, .mov (.t 7), none⟩) ::
   (2, ⟨some 83, .mov (.t 8), none⟩) ::
   (3, ⟨some 2, .mov (.t 81), none⟩) ::
   (4, ⟨some 3, .mov (.t 82), none⟩) ::
   (5, ⟨some 4, .mov (.t 83), none⟩) ::
   []
theorem h12_51 : wS fs out b o12_51 t h R = (wV fs out (b + 0) noT h (.mov (.k (t 6))) fun x81_0 h => wV fs out (b + 1) noT h (.mov (.k (t 7))) fun x82_1 h => wV fs out (b + 2) noT h (.mov (.k (t 8))) fun x83_2 h => wV fs out (b + 3) noT h (.mov (.k x81_0)) fun x2_3 h => wV fs out (b + 4) noT h (.mov (.k x82_1)) fun x3_4 h => wV fs out (b + 5) noT h (.mov (.k x83_2)) fun x4_5 h => R ⟨(upd (upd (upd (upd (upd (upd t 81 x81_0) 82 x82_1) 83 x83_2) 2 x2_3) 3 x3_4) 4 x4_5), h⟩) := by kernel_rfl
def c12_51 : ACode := .region (o12_51.map (·.2)) [0, 1, 2, 3, 4, 5] []
theorem s12_51 (h : wS fs out s.h.nx o12_51 s.t ⟨s.h.o, s.h.nx + 6⟩ (Q .normal)) : wC fs out c12_51 s Q := wC_region rfl rfl h
def c12_50 : ACode := .seq c12_51 .ret
theorem s12_50 (h : wS fs out s.h.nx o12_51 s.t ⟨s.h.o, s.h.nx + 6⟩ fun s1 => wC fs out .ret s1 Q) : wC fs out c12_50 s Q := wC_seq (s12_51 h)
def c12_12 : ACode := .seq c12_13 c12_50
theorem s12_12 (h : wC fs out c12_13 s fun e s1 => match e with | .normal => wC fs out c12_50 s1 Q | e => Q e s1) : wC fs out c12_12 s Q := wC_seq h
def c12_10 : ACode := .seq c12_11 c12_12
theorem s12_10 (h : wS fs out s.h.nx o12_11 s.t ⟨s.h.o, s.h.nx + 4⟩ fun s1 => wC fs out c12_12 s1 Q) : wC fs out c12_10 s Q := wC_seq (s12_11 h)
def c12_8 : ACode := .seq c12_9 c12_10
theorem s12_8 (h : wS fs out s.h.nx o12_9 s.t ⟨s.h.o, s.h.nx + 1⟩ fun s1 => wC fs out c12_10 s1 Q) : wC fs out c12_8 s Q := wC_seq (s12_9 h)
def c12_6 : ACode := .seq c12_7 c12_8
theorem s12_6 (h : wS fs out s.h.nx o12_7 s.t ⟨s.h.o, s.h.nx + 1⟩ fun s1 => wC fs out c12_8 s1 Q) : wC fs out c12_6 s Q := wC_seq (s12_7 h)
def c12_4 : ACode := .seq c12_5 c12_6
theorem s12_4 (h : wS fs out s.h.nx o12_5 s.t ⟨s.h.o, s.h.nx + 1⟩ fun s1 => wC fs out c12_6 s1 Q) : wC fs out c12_4 s Q := wC_seq (s12_5 h)
def c12_2 : ACode := .seq c12_3 c12_4
theorem s12_2 (h : wS fs out s.h.nx o12_3 s.t ⟨s.h.o, s.h.nx + 3⟩ fun s1 => wC fs out c12_4 s1 Q) : wC fs out c12_2 s Q := wC_seq (s12_3 h)
def c12_0 : ACode := .seq c12_1 c12_2
theorem s12_0 (h : wS fs out s.h.nx o12_1 s.t ⟨s.h.o, s.h.nx + 3⟩ fun s1 => wC fs out c12_2 s1 Q) : wC fs out c12_0 s Q := wC_seq (s12_1 h)
def a12 : AFunc := ⟨1, [2, 3, 4], none, c12_0⟩
theorem t12 : tell Try.prog Try.f12 [([5, 6, 7, 8, 9, 10], [], []), ([5, 6, 7, 8, 9, 10], [], []), ([5, 6, 7, 8, 9, 10, 11], [], []), ([5, 6, 7, 8, 9, 10, 11], [], []), ([5, 6, 7, 8, 9, 10, 11], [], []), ([5, 6, 7, 8, 9, 10], [], [])] = some a12 := by kernel_rfl
theorem ok12 : FuncOk Try.prog 12 a12 := tell_ok Try.func12 t12

/-- railplan/delay.Propagate -/
def o13_1 : List (Nat × AOper) := (0, ⟨some 6, .mov (.k (.v (.one .nils))), none⟩) ::
   (1, ⟨some 7, .mov (.k (.v (.one .nils))), none⟩) ::
   (2, ⟨some 8, .mov (.k (.v (.one (.int .i64 0)))), none⟩) ::
   []
theorem h13_1 : wS fs out b o13_1 t h R = (wV fs out (b + 0) noT h (.mov (.k (.v (.one .nils)))) fun x6_0 h => wV fs out (b + 1) noT h (.mov (.k (.v (.one .nils)))) fun x7_1 h => wV fs out (b + 2) noT h (.mov (.k (.v (.one (.int .i64 0))))) fun x8_2 h => R ⟨(upd (upd (upd t 6 x6_0) 7 x7_1) 8 x8_2), h⟩) := by kernel_rfl
def c13_1 : ACode := .region (o13_1.map (·.2)) [0, 1, 2] []
theorem s13_1 (h : wS fs out s.h.nx o13_1 s.t ⟨s.h.o, s.h.nx + 3⟩ (Q .normal)) : wC fs out c13_1 s Q := wC_region rfl rfl h
def o13_4_1 : List (Nat × AOper) := (4, ⟨some 14, .not (.t 13), none⟩) ::
   []
theorem h13_4_1 : wS fs out b o13_4_1 t h R = (wV fs out (b + 4) noT h (.not (.k (t 13))) fun x14_0 h => R ⟨(upd t 14 x14_0), h⟩) := by kernel_rfl
def o13_4 : List (Nat × AOper) := (0, ⟨some 10, .mov (.t 0), none⟩) ::
   (1, ⟨some 11, .mov (.t 1), none⟩) ::
   (2, ⟨some 12, .mov (.t 2), none⟩) ::
   (3, ⟨some 13, .call 22 [(.t 10), (.t 11), (.t 12)], none⟩) ::
   o13_4_1
theorem h13_4 : wS fs out b o13_4 t h R = (wV fs out (b + 0) noT h (.mov (.k (t 0))) fun x10_0 h => wV fs out (b + 1) noT h (.mov (.k (t 1))) fun x11_1 h => wV fs out (b + 2) noT h (.mov (.k (t 2))) fun x12_2 h => wV fs out (b + 3) noT h (.call 22 [(.k x10_0), (.k x11_1), (.k x12_2)]) fun x13_3 h => wS fs out b o13_4_1 (upd (upd (upd (upd t 10 x10_0) 11 x11_1) 12 x12_2) 13 x13_3) h R) := by kernel_rfl
def c13_4 : ACode := .region (o13_4.map (·.2)) [0, 1, 2, 3, 4] []
theorem s13_4 (h : wS fs out s.h.nx o13_4 s.t ⟨s.h.o, s.h.nx + 5⟩ (Q .normal)) : wC fs out c13_4 s Q := wC_region rfl rfl h
def o13_7 : List (Nat × AOper) := (0, ⟨some 6, .mov (.k (.v (.one .nils))), none⟩) ::
   (1, ⟨some 7, .mov (.k (.v (.one .nils))), none⟩) ::
   (2, ⟨some 8, .mov (.k (.v (.one (.int .i64 1)))), none⟩) ::
   []
theorem h13_7 : wS fs out b o13_7 t h R = (wV fs out (b + 0) noT h (.mov (.k (.v (.one .nils)))) fun x6_0 h => wV fs out (b + 1) noT h (.mov (.k (.v (.one .nils)))) fun x7_1 h => wV fs out (b + 2) noT h (.mov (.k (.v (.one (.int .i64 1))))) fun x8_2 h => R ⟨(upd (upd (upd t 6 x6_0) 7 x7_1) 8 x8_2), h⟩) := by kernel_rfl
def c13_7 : ACode := .region (o13_7.map (·.2)) [0, 1, 2] []
theorem s13_7 (h : wS fs out s.h.nx o13_7 s.t ⟨s.h.o, s.h.nx + 3⟩ (Q .normal)) : wC fs out c13_7 s Q := wC_region rfl rfl h
def c13_6 : ACode := .seq c13_7 .ret
theorem s13_6 (h : wS fs out s.h.nx o13_7 s.t ⟨s.h.o, s.h.nx + 3⟩ fun s1 => wC fs out .ret s1 Q) : wC fs out c13_6 s Q := wC_seq (s13_7 h)
def c13_5 : ACode := .cond (.t 14) c13_6 .skip [0, 1, 2, 6, 7, 8]
theorem s13_5 (h : onC (s.t 14) (wC fs out c13_6 s fun e s1 => Q e (keepOnly [0, 1, 2, 6, 7, 8] s1)) (Q .normal (keepOnly [0, 1, 2, 6, 7, 8] s))) : wC fs out c13_5 s Q := wC_condC (by first | exact h | (simp only [wC_skip, wC_exit, wC_ret]; exact h))
def c13_3 : ACode := .seq c13_4 c13_5
theorem s13_3 (h : wS fs out s.h.nx o13_4 s.t ⟨s.h.o, s.h.nx + 5⟩ fun s1 => wC fs out c13_5 s1 Q) : wC fs out c13_3 s Q := wC_seq (s13_4 h)
def o13_9_1 : List (Nat × AOper) := (4, ⟨some 9, .new 58 [.nils, .nils, .nils], none⟩) ::
   (5, ⟨none, .store 3 (.t 9) (.t 18), none⟩) ::
   []
theorem h13_9_1 : wS fs out b o13_9_1 t h R = (wV fs out (b + 4) noT h (.new 58 [.nils, .nils, .nils]) fun x9_0 h => wV fs out (b + 5) noT h (.store 3 (.k x9_0) (.k (t 18))) fun _ h => R ⟨(upd t 9 x9_0), h⟩) := by kernel_rfl
def o13_9 : List (Nat × AOper) := (0, ⟨some 15, .mov (.t 0), none⟩) ::
   (1, ⟨some 16, .mov (.t 1), none⟩) ::
   (2, ⟨some 17, .mov (.t 2), none⟩) ::
   (3, ⟨some 18, .call 28 [(.t 15), (.t 16), (.t 17)], none⟩) ::
   o13_9_1
theorem h13_9 : wS fs out b o13_9 t h R = (wV fs out (b + 0) noT h (.mov (.k (t 0))) fun x15_0 h => wV fs out (b + 1) noT h (.mov (.k (t 1))) fun x16_1 h => wV fs out (b + 2) noT h (.mov (.k (t 2))) fun x17_2 h => wV fs out (b + 3) noT h (.call 28 [(.k x15_0), (.k x16_1), (.k x17_2)]) fun x18_3 h => wS fs out b o13_9_1 (upd (upd (upd (upd t 15 x15_0) 16 x16_1) 17 x17_2) 18 x18_3) h R) := by kernel_rfl
def c13_9 : ACode := .region (o13_9.map (·.2)) [0, 1, 2, 3, 4, 5] []
theorem s13_9 (h : wS fs out s.h.nx o13_9 s.t ⟨s.h.o, s.h.nx + 6⟩ (Q .normal)) : wC fs out c13_9 s Q := wC_region rfl rfl h
def o13_11 : List (Nat × AOper) := (0, ⟨some 19, .fadr 1 (.t 9), none⟩) ::
   (1, ⟨some 20, .load none (.t 19), none⟩) ::
   (2, ⟨some 21, .fadr 2 (.t 9), none⟩) ::
   (3, ⟨some 22, .load none (.t 21), none⟩) ::
   (4, ⟨some 6, .mov (.t 20), none⟩) ::
   (5, ⟨some 7, .mov (.t 22), none⟩) ::
   (6, ⟨some 8, .mov (.k (.v (.one (.int .i64 0)))), none⟩) ::
   []
theorem h13_11 : wS fs out b o13_11 t h R = (wV fs out (b + 0) noT h (.fadr 1 (.k (t 9))) fun x19_0 h => wV fs out (b + 1) noT h (.load none (.k x19_0)) fun x20_1 h => wV fs out (b + 2) noT h (.fadr 2 (.k (t 9))) fun x21_2 h => wV fs out (b + 3) noT h (.load none (.k x21_2)) fun x22_3 h => wV fs out (b + 4) noT h (.mov (.k x20_1)) fun x6_4 h => wV fs out (b + 5) noT h (.mov (.k x22_3)) fun x7_5 h => wV fs out (b + 6) noT h (.mov (.k (.v (.one (.int .i64 0))))) fun x8_6 h => R ⟨(upd (upd (upd (upd (upd (upd (upd t 19 x19_0) 20 x20_1) 21 x21_2) 22 x22_3) 6 x6_4) 7 x7_5) 8 x8_6), h⟩) := by kernel_rfl
def c13_11 : ACode := .region (o13_11.map (·.2)) [0, 1, 2, 3, 4, 5, 6] []
theorem s13_11 (h : wS fs out s.h.nx o13_11 s.t ⟨s.h.o, s.h.nx + 7⟩ (Q .normal)) : wC fs out c13_11 s Q := wC_region rfl rfl h
def c13_10 : ACode := .seq c13_11 .ret
theorem s13_10 (h : wS fs out s.h.nx o13_11 s.t ⟨s.h.o, s.h.nx + 7⟩ fun s1 => wC fs out .ret s1 Q) : wC fs out c13_10 s Q := wC_seq (s13_11 h)
def c13_8 : ACode := .seq c13_9 c13_10
theorem s13_8 (h : wS fs out s.h.nx o13_9 s.t ⟨s.h.o, s.h.nx + 6⟩ fun s1 => wC fs out c13_10 s1 Q) : wC fs out c13_8 s Q := wC_seq (s13_9 h)
def c13_2 : ACode := .seq c13_3 c13_8
theorem s13_2 (h : wC fs out c13_3 s fun e s1 => match e with | .normal => wC fs out c13_8 s1 Q | e => Q e s1) : wC fs out c13_2 s Q := wC_seq h
def c13_0 : ACode := .seq c13_1 c13_2
theorem s13_0 (h : wS fs out s.h.nx o13_1 s.t ⟨s.h.o, s.h.nx + 3⟩ fun s1 => wC fs out c13_2 s1 Q) : wC fs out c13_0 s Q := wC_seq (s13_1 h)
def a13 : AFunc := ⟨3, [6, 7, 8], none, c13_0⟩
theorem t13 : tell Try.prog Try.f13 [([0, 1, 2, 6, 7, 8], [], []), ([0, 1, 2, 3, 4, 5, 6], [], [0, 1, 0, 4, 3, 31, 63])] = some a13 := by kernel_rfl
theorem ok13 : FuncOk Try.prog 13 a13 := tell_ok Try.func13 t13

/-- railplan/railplanlaw34.awake -/
def o14_1 : List (Nat × AOper) := (0, ⟨some 0, .mov (.k (.v (.one (.bool false)))), none⟩) ::
   []
theorem h14_1 : wS fs out b o14_1 t h R = (wV fs out (b + 0) noT h (.mov (.k (.v (.one (.bool false))))) fun x0_0 h => R ⟨(upd t 0 x0_0), h⟩) := by kernel_rfl
def c14_1 : ACode := .region (o14_1.map (·.2)) [0] []
theorem s14_1 (h : wS fs out s.h.nx o14_1 s.t ⟨s.h.o, s.h.nx + 1⟩ (Q .normal)) : wC fs out c14_1 s Q := wC_region rfl rfl h
def o14_3_1 : List (Nat × AOper) := (1, ⟨some 7, .mov (.t 8), none⟩) ::
   (2, ⟨some 9, .ext 0 (.t 7), none⟩) ::
   (3, ⟨some 10, .ext 1 (.t 7), none⟩) ::
   (4, ⟨some 11, .ext 2 (.t 7), none⟩) ::
   (5, ⟨some 1, .mov (.t 9), none⟩) ::
   (6, ⟨some 2, .mov (.t 10), none⟩) ::
   (7, ⟨some 3, .mov (.t 11), none⟩) ::
   []
theorem h14_3_1 : wS fs out b o14_3_1 t h R = (wV fs out (b + 1) noT h (.mov (.k (t 8))) fun x7_0 h => wV fs out (b + 2) noT h (.ext 0 (.k x7_0)) fun x9_1 h => wV fs out (b + 3) noT h (.ext 1 (.k x7_0)) fun x10_2 h => wV fs out (b + 4) noT h (.ext 2 (.k x7_0)) fun x11_3 h => wV fs out (b + 5) noT h (.mov (.k x9_1)) fun x1_4 h => wV fs out (b + 6) noT h (.mov (.k x10_2)) fun x2_5 h => wV fs out (b + 7) noT h (.mov (.k x11_3)) fun x3_6 h => R ⟨(upd (upd (upd (upd (upd (upd (upd t 7 x7_0) 9 x9_1) 10 x10_2) 11 x11_3) 1 x1_4) 2 x2_5) 3 x3_6), h⟩) := by kernel_rfl
def o14_3 : List (Nat × AOper) := (0, ⟨some 8, .call 25 [(.k (.v (.one (.int .i64 90))))], none⟩) ::
   o14_3_1
theorem h14_3 : wS fs out b o14_3 t h R = (wV fs out (b + 0) noT h (.call 25 [(.k (.v (.one (.int .i64 90))))]) fun x8_0 h => wS fs out b o14_3_1 (upd t 8 x8_0) h R) := by kernel_rfl
def c14_3 : ACode := .region (o14_3.map (·.2)) [0, 1, 2, 3, 4, 5, 6, 7] []
theorem s14_3 (h : wS fs out s.h.nx o14_3 s.t ⟨s.h.o, s.h.nx + 8⟩ (Q .normal)) : wC fs out c14_3 s Q := wC_region rfl rfl h
def o14_5_1 : List (Nat × AOper) := (4, ⟨some 12, .mov (.t 16), none⟩) ::
   (5, ⟨some 17, .ext 0 (.t 12), none⟩) ::
   (6, ⟨some 18, .ext 1 (.t 12), none⟩) ::
   (7, ⟨some 19, .ext 2 (.t 12), none⟩) ::
   (8, ⟨some 4, .mov (.t 17), none⟩) ::
   (9, ⟨some 5, .mov (.t 18), none⟩) ::
   (10, ⟨some 6, .mov (.t 19), none⟩) ::
   []
theorem h14_5_1 : wS fs out b o14_5_1 t h R = (wV fs out (b + 4) noT h (.mov (.k (t 16))) fun x12_0 h => wV fs out (b + 5) noT h (.ext 0 (.k x12_0)) fun x17_1 h => wV fs out (b + 6) noT h (.ext 1 (.k x12_0)) fun x18_2 h => wV fs out (b + 7) noT h (.ext 2 (.k x12_0)) fun x19_3 h => wV fs out (b + 8) noT h (.mov (.k x17_1)) fun x4_4 h => wV fs out (b + 9) noT h (.mov (.k x18_2)) fun x5_5 h => wV fs out (b + 10) noT h (.mov (.k x19_3)) fun x6_6 h => R ⟨(upd (upd (upd (upd (upd (upd (upd t 12 x12_0) 17 x17_1) 18 x18_2) 19 x19_3) 4 x4_4) 5 x5_5) 6 x6_6), h⟩) := by kernel_rfl
def o14_5 : List (Nat × AOper) := (0, ⟨some 13, .mov (.t 1), none⟩) ::
   (1, ⟨some 14, .mov (.t 2), none⟩) ::
   (2, ⟨some 15, .mov (.t 3), none⟩) ::
   (3, ⟨some 16, .call 13 [(.t 13), (.t 14), (.t 15)], none⟩) ::
   o14_5_1
theorem h14_5 : wS fs out b o14_5 t h R = (wV fs out (b + 0) noT h (.mov (.k (t 1))) fun x13_0 h => wV fs out (b + 1) noT h (.mov (.k (t 2))) fun x14_1 h => wV fs out (b + 2) noT h (.mov (.k (t 3))) fun x15_2 h => wV fs out (b + 3) noT h (.call 13 [(.k x13_0), (.k x14_1), (.k x15_2)]) fun x16_3 h => wS fs out b o14_5_1 (upd (upd (upd (upd t 13 x13_0) 14 x14_1) 15 x15_2) 16 x16_3) h R) := by kernel_rfl
def c14_5 : ACode := .region (o14_5.map (·.2)) [0, 1, 2, 3, 4, 5, 6, 7, 8, 9, 10] []
theorem s14_5 (h : wS fs out s.h.nx o14_5 s.t ⟨s.h.o, s.h.nx + 11⟩ (Q .normal)) : wC fs out c14_5 s Q := wC_region rfl rfl h
def o14_7_6 : List (Nat × AOper) := (17, ⟨some 37, .pick (.t 32) (.t 36) (.k (.v (.one (.bool false)))), none⟩) ::
   (18, ⟨some 0, .mov (.t 37), none⟩) ::
   []
theorem h14_7_6 : wS fs out b o14_7_6 t h R = (wV fs out (b + 17) noT h (.pick (.k (t 32)) (.k (t 36)) (.k (.v (.one (.bool false))))) fun x37_0 h => wV fs out (b + 18) noT h (.mov (.k x37_0)) fun x0_1 h => R ⟨(upd (upd t 37 x37_0) 0 x0_1), h⟩) := by kernel_rfl
def o14_7_5g : List (Nat × AOper) := (13, ⟨some 33, .mov (.t 1), none⟩) ::
   (14, ⟨some 34, .mov (.t 2), none⟩) ::
   (15, ⟨some 35, .mov (.t 3), none⟩) ::
   (16, ⟨some 36, .call 22 [(.t 33), (.t 34), (.t 35)], none⟩) ::
   []
theorem h14_7_5g : wS fs out b o14_7_5g t h R = (wV fs out (b + 13) noT h (.mov (.k (t 1))) fun x33_0 h => wV fs out (b + 14) noT h (.mov (.k (t 2))) fun x34_1 h => wV fs out (b + 15) noT h (.mov (.k (t 3))) fun x35_2 h => wV fs out (b + 16) noT h (.call 22 [(.k x33_0), (.k x34_1), (.k x35_2)]) fun x36_3 h => R ⟨(upd (upd (upd (upd t 33 x33_0) 34 x34_1) 35 x35_2) 36 x36_3), h⟩) := by kernel_rfl
def o14_7_5 : List (Nat × AOper) := grp 32 true o14_7_5g o14_7_6
theorem w14_7_5 : wS fs out b o14_7_5 t h R = onG (t 32) true (wS fs out b o14_7_5g (upd t 32 (.v (.one (.bool true)))) h fun s => wS fs out b o14_7_6 s.t s.h R) (wS fs out b o14_7_6 (upd (upd (upd (upd (upd t 32 (.v (.one (.bool false)))) 33 (.tup [])) 34 (.tup [])) 35 (.tup [])) 36 (.tup [])) h R) (wS fs out b o14_7_6 (upd (upd (upd (upd t 33 (.tup [])) 34 (.tup [])) 35 (.tup [])) 36 (.tup [])) h R) := wS_grpE rfl
def o14_7_4 : List (Nat × AOper) := (11, ⟨some 31, .pick (.t 27) (.t 30) (.k (.v (.one (.bool false)))), none⟩) ::
   (12, ⟨some 32, .mov (.t 31), none⟩) ::
   o14_7_5
theorem h14_7_4 : wS fs out b o14_7_4 t h R = (wV fs out (b + 11) noT h (.pick (.k (t 27)) (.k (t 30)) (.k (.v (.one (.bool false))))) fun x31_0 h => wV fs out (b + 12) noT h (.mov (.k x31_0)) fun x32_1 h => wS fs out b o14_7_5 (upd (upd t 31 x31_0) 32 x32_1) h R) := by kernel_rfl
def o14_7_3g : List (Nat × AOper) := (8, ⟨some 28, .mov (.t 5), none⟩) ::
   (9, ⟨some 29, .bsl 4 1 2 [(.bool false)] [(0, 1, (.k (.v (.one (.bool true))))), (1, 1, (.k (.v (.one (.bool false)))))], none⟩) ::
   (10, ⟨some 30, .call 24 [(.t 28), (.t 29)], none⟩) ::
   []
theorem h14_7_3g : wS fs out b o14_7_3g t h R = (wV fs out (b + 8) noT h (.mov (.k (t 5))) fun x28_0 h => wV fs out (b + 9) noT h (.bsl 4 1 2 [(.bool false)] [(0, 1, (.k (.v (.one (.bool true))))), (1, 1, (.k (.v (.one (.bool false)))))]) fun x29_1 h => wV fs out (b + 10) noT h (.call 24 [(.k x28_0), (.k x29_1)]) fun x30_2 h => R ⟨(upd (upd (upd t 28 x28_0) 29 x29_1) 30 x30_2), h⟩) := by kernel_rfl
def o14_7_3 : List (Nat × AOper) := grp 27 true o14_7_3g o14_7_4
theorem w14_7_3 : wS fs out b o14_7_3 t h R = onG (t 27) true (wS fs out b o14_7_3g (upd t 27 (.v (.one (.bool true)))) h fun s => wS fs out b o14_7_4 s.t s.h R) (wS fs out b o14_7_4 (upd (upd (upd (upd t 27 (.v (.one (.bool false)))) 28 (.tup [])) 29 (.tup [])) 30 (.tup [])) h R) (wS fs out b o14_7_4 (upd (upd (upd t 28 (.tup [])) 29 (.tup [])) 30 (.tup [])) h R) := wS_grpE rfl
def o14_7_2 : List (Nat × AOper) := (6, ⟨some 26, .pick (.t 22) (.t 25) (.k (.v (.one (.bool false)))), none⟩) ::
   (7, ⟨some 27, .mov (.t 26), none⟩) ::
   o14_7_3
theorem h14_7_2 : wS fs out b o14_7_2 t h R = (wV fs out (b + 6) noT h (.pick (.k (t 22)) (.k (t 25)) (.k (.v (.one (.bool false))))) fun x26_0 h => wV fs out (b + 7) noT h (.mov (.k x26_0)) fun x27_1 h => wS fs out b o14_7_3 (upd (upd t 26 x26_0) 27 x27_1) h R) := by kernel_rfl
def o14_7_1g : List (Nat × AOper) := (3, ⟨some 23, .mov (.t 4), none⟩) ::
   (4, ⟨some 24, .bsl 3 1 3 [(.int .i64 0)] [(0, 1, (.k (.v (.one (.int .i64 190))))), (1, 1, (.k (.v (.one (.int .i64 240))))), (2, 1, (.k (.v (.one (.int .i64 200)))))], none⟩) ::
   (5, ⟨some 25, .call 19 [(.t 23), (.t 24)], none⟩) ::
   []
theorem h14_7_1g : wS fs out b o14_7_1g t h R = (wV fs out (b + 3) noT h (.mov (.k (t 4))) fun x23_0 h => wV fs out (b + 4) noT h (.bsl 3 1 3 [(.int .i64 0)] [(0, 1, (.k (.v (.one (.int .i64 190))))), (1, 1, (.k (.v (.one (.int .i64 240))))), (2, 1, (.k (.v (.one (.int .i64 200)))))]) fun x24_1 h => wV fs out (b + 5) noT h (.call 19 [(.k x23_0), (.k x24_1)]) fun x25_2 h => R ⟨(upd (upd (upd t 23 x23_0) 24 x24_1) 25 x25_2), h⟩) := by kernel_rfl
def o14_7_1 : List (Nat × AOper) := grp 22 true o14_7_1g o14_7_2
theorem w14_7_1 : wS fs out b o14_7_1 t h R = onG (t 22) true (wS fs out b o14_7_1g (upd t 22 (.v (.one (.bool true)))) h fun s => wS fs out b o14_7_2 s.t s.h R) (wS fs out b o14_7_2 (upd (upd (upd (upd t 22 (.v (.one (.bool false)))) 23 (.tup [])) 24 (.tup [])) 25 (.tup [])) h R) (wS fs out b o14_7_2 (upd (upd (upd t 23 (.tup [])) 24 (.tup [])) 25 (.tup [])) h R) := wS_grpE rfl
def o14_7 : List (Nat × AOper) := (0, ⟨some 20, .mov (.t 6), none⟩) ::
   (1, ⟨some 21, .bin .eql (.t 20) (.k (.v (.one (.int .i64 0)))), none⟩) ::
   (2, ⟨some 22, .mov (.t 21), none⟩) ::
   o14_7_1
theorem h14_7 : wS fs out b o14_7 t h R = (wV fs out (b + 0) noT h (.mov (.k (t 6))) fun x20_0 h => wV fs out (b + 1) noT h (.bin .eql (.k x20_0) (.k (.v (.one (.int .i64 0))))) fun x21_1 h => wV fs out (b + 2) noT h (.mov (.k x21_1)) fun x22_2 h => wS fs out b o14_7_1 (upd (upd (upd t 20 x20_0) 21 x21_1) 22 x22_2) h R) := by kernel_rfl
def c14_7 : ACode := .region (o14_7.map (·.2)) [0, 1, 2, 3, 4, 5, 6, 7, 8, 9, 10, 11, 12, 13, 14, 15, 16, 17, 18] []
theorem s14_7 (h : wS fs out s.h.nx o14_7 s.t ⟨s.h.o, s.h.nx + 19⟩ (Q .normal)) : wC fs out c14_7 s Q := wC_region rfl rfl h
def c14_6 : ACode := .seq c14_7 .ret
theorem s14_6 (h : wS fs out s.h.nx o14_7 s.t ⟨s.h.o, s.h.nx + 19⟩ fun s1 => wC fs out .ret s1 Q) : wC fs out c14_6 s Q := wC_seq (s14_7 h)
def c14_4 : ACode := .seq c14_5 c14_6
theorem s14_4 (h : wS fs out s.h.nx o14_5 s.t ⟨s.h.o, s.h.nx + 11⟩ fun s1 => wC fs out c14_6 s1 Q) : wC fs out c14_4 s Q := wC_seq (s14_5 h)
def c14_2 : ACode := .seq c14_3 c14_4
theorem s14_2 (h : wS fs out s.h.nx o14_3 s.t ⟨s.h.o, s.h.nx + 8⟩ fun s1 => wC fs out c14_4 s1 Q) : wC fs out c14_2 s Q := wC_seq (s14_3 h)
def c14_0 : ACode := .seq c14_1 c14_2
theorem s14_0 (h : wS fs out s.h.nx o14_1 s.t ⟨s.h.o, s.h.nx + 1⟩ fun s1 => wC fs out c14_2 s1 Q) : wC fs out c14_0 s Q := wC_seq (s14_1 h)
def a14 : AFunc := ⟨0, [0], none, c14_0⟩
theorem t14 : tell Try.prog Try.f14 [] = some a14 := by kernel_rfl
theorem ok14 : FuncOk Try.prog 14 a14 := tell_ok Try.func14 t14

/-- railplan/railplankeep.Pick -/
def o15_1 : List (Nat × AOper) := (0, ⟨some 4, .mov (.k (.v (.one (.int .i64 0)))), none⟩) ::
   []
theorem h15_1 : wS fs out b o15_1 t h R = (wV fs out (b + 0) noT h (.mov (.k (.v (.one (.int .i64 0))))) fun x4_0 h => R ⟨(upd t 4 x4_0), h⟩) := by kernel_rfl
def c15_1 : ACode := .region (o15_1.map (·.2)) [0] []
theorem s15_1 (h : wS fs out s.h.nx o15_1 s.t ⟨s.h.o, s.h.nx + 1⟩ (Q .normal)) : wC fs out c15_1 s Q := wC_region rfl rfl h
def o15_3 : List (Nat × AOper) := (0, ⟨some 5, .mov (.t 0), none⟩) ::
   (1, ⟨some 6, .conv .u64 (.t 5), none⟩) ::
   (2, ⟨some 7, .mov (.t 1), none⟩) ::
   (3, ⟨some 8, .conv .u64 (.t 7), none⟩) ::
   (4, ⟨some 9, .bin .rem (.t 6) (.t 8), none⟩) ::
   (5, ⟨some 10, .conv .i64 (.t 9), none⟩) ::
   (6, ⟨some 4, .mov (.t 10), none⟩) ::
   []
theorem h15_3 : wS fs out b o15_3 t h R = (wV fs out (b + 0) noT h (.mov (.k (t 0))) fun x5_0 h => wV fs out (b + 1) noT h (.conv .u64 (.k x5_0)) fun x6_1 h => wV fs out (b + 2) noT h (.mov (.k (t 1))) fun x7_2 h => wV fs out (b + 3) noT h (.conv .u64 (.k x7_2)) fun x8_3 h => wV fs out (b + 4) noT h (.bin .rem (.k x6_1) (.k x8_3)) fun x9_4 h => wV fs out (b + 5) noT h (.conv .i64 (.k x9_4)) fun x10_5 h => wV fs out (b + 6) noT h (.mov (.k x10_5)) fun x4_6 h => R ⟨(upd (upd (upd (upd (upd (upd (upd t 5 x5_0) 6 x6_1) 7 x7_2) 8 x8_3) 9 x9_4) 10 x10_5) 4 x4_6), h⟩) := by kernel_rfl
def c15_3 : ACode := .region (o15_3.map (·.2)) [0, 1, 2, 3, 4, 5, 6] []
theorem s15_3 (h : wS fs out s.h.nx o15_3 s.t ⟨s.h.o, s.h.nx + 7⟩ (Q .normal)) : wC fs out c15_3 s Q := wC_region rfl rfl h
def c15_2 : ACode := .seq c15_3 .ret
theorem s15_2 (h : wS fs out s.h.nx o15_3 s.t ⟨s.h.o, s.h.nx + 7⟩ fun s1 => wC fs out .ret s1 Q) : wC fs out c15_2 s Q := wC_seq (s15_3 h)
def c15_0 : ACode := .seq c15_1 c15_2
theorem s15_0 (h : wS fs out s.h.nx o15_1 s.t ⟨s.h.o, s.h.nx + 1⟩ fun s1 => wC fs out c15_2 s1 Q) : wC fs out c15_0 s Q := wC_seq (s15_1 h)
def a15 : AFunc := ⟨2, [4], none, c15_0⟩
theorem t15 : tell Try.prog Try.f15 [] = some a15 := by kernel_rfl
theorem ok15 : FuncOk Try.prog 15 a15 := tell_ok Try.func15 t15

end Go.Proofs.Ythoicdnlcnppgaa.Fn
