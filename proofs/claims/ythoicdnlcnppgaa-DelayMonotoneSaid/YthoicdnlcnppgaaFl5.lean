/- A law's function, as the abstract machine's, and that it is. Conditions: none. -/
import Derived.Test.YthoicdnlcnppgaaFn
set_option linter.unusedVariables false
set_option linter.unusedSimpArgs false
namespace Go.Proofs.Ythoicdnlcnppgaa.Fn
open Go Go.Am
set_option maxRecDepth 100000
section
variable {fs : Nat → Option AFunc} {out : Rec} {s : St} {Q : AExit → St → Prop} {b : Nat} {t : Nat → T} {h : AH} {R : St → Prop}
/-- railplan/railplanlaw34.DelayMonotone -/
def o5_1 : List (Nat × AOper) := (0, ⟨some 6, .mov (.k (.v (.one (.bool false)))), none⟩) ::
   []
theorem h5_1 : wS fs out b o5_1 t h R = (wV fs out (b + 0) noT h (.mov (.k (.v (.one (.bool false))))) fun x6_0 h => R ⟨(upd t 6 x6_0), h⟩) := by kernel_rfl
def c5_1 : ACode := .region (o5_1.map (·.2)) [0] []
theorem s5_1 (h : wS fs out s.h.nx o5_1 s.t ⟨s.h.o, s.h.nx + 1⟩ (Q .normal)) : wC fs out c5_1 s Q := wC_region rfl rfl h
def o5_3_1 : List (Nat × AOper) := (2, ⟨some 23, .mov (.t 25), none⟩) ::
   (3, ⟨some 26, .ext 0 (.t 23), none⟩) ::
   (4, ⟨some 27, .ext 1 (.t 23), none⟩) ::
   (5, ⟨some 28, .ext 2 (.t 23), none⟩) ::
   (6, ⟨some 7, .mov (.t 26), none⟩) ::
   (7, ⟨some 8, .mov (.t 27), none⟩) ::
   (8, ⟨some 9, .mov (.t 28), none⟩) ::
   []
theorem h5_3_1 : wS fs out b o5_3_1 t h R = (wV fs out (b + 2) noT h (.mov (.k (t 25))) fun x23_0 h => wV fs out (b + 3) noT h (.ext 0 (.k x23_0)) fun x26_1 h => wV fs out (b + 4) noT h (.ext 1 (.k x23_0)) fun x27_2 h => wV fs out (b + 5) noT h (.ext 2 (.k x23_0)) fun x28_3 h => wV fs out (b + 6) noT h (.mov (.k x26_1)) fun x7_4 h => wV fs out (b + 7) noT h (.mov (.k x27_2)) fun x8_5 h => wV fs out (b + 8) noT h (.mov (.k x28_3)) fun x9_6 h => R ⟨(upd (upd (upd (upd (upd (upd (upd t 23 x23_0) 26 x26_1) 27 x27_2) 28 x28_3) 7 x7_4) 8 x8_5) 9 x9_6), h⟩) := by kernel_rfl
def o5_3 : List (Nat × AOper) := (0, ⟨some 24, .mov (.t 0), none⟩) ::
   (1, ⟨some 25, .call 12 [(.t 24)], none⟩) ::
   o5_3_1
theorem h5_3 : wS fs out b o5_3 t h R = (wV fs out (b + 0) noT h (.mov (.k (t 0))) fun x24_0 h => wV fs out (b + 1) noT h (.call 12 [(.k x24_0)]) fun x25_1 h => wS fs out b o5_3_1 (upd (upd t 24 x24_0) 25 x25_1) h R) := by kernel_rfl
def c5_3 : ACode := .region (o5_3.map (·.2)) [0, 1, 2, 3, 4, 5, 6, 7, 8] []
theorem s5_3 (h : wS fs out s.h.nx o5_3 s.t ⟨s.h.o, s.h.nx + 9⟩ (Q .normal)) : wC fs out c5_3 s Q := wC_region rfl rfl h
def o5_6 : List (Nat × AOper) := (0, ⟨some 29, .mov (.t 8), none⟩) ::
   (1, ⟨some 30, .len (.t 29), none⟩) ::
   (2, ⟨some 31, .mov (.k (.v (.one (.int .i64 0)))), none⟩) ::
   []
theorem h5_6 : wS fs out b o5_6 t h R = (wV fs out (b + 0) noT h (.mov (.k (t 8))) fun x29_0 h => wV fs out (b + 1) noT h (.len (.k x29_0)) fun x30_1 h => wV fs out (b + 2) noT h (.mov (.k (.v (.one (.int .i64 0))))) fun x31_2 h => R ⟨(upd (upd (upd t 29 x29_0) 30 x30_1) 31 x31_2), h⟩) := by kernel_rfl
def c5_6 : ACode := .region (o5_6.map (·.2)) [0, 1, 2] []
theorem s5_6 (h : wS fs out s.h.nx o5_6 s.t ⟨s.h.o, s.h.nx + 3⟩ (Q .normal)) : wC fs out c5_6 s Q := wC_region rfl rfl h
def o5_10 : List (Nat × AOper) := (0, ⟨some 32, .bin .lss (.t 31) (.t 30), none⟩) ::
   []
theorem h5_10 : wS fs out b o5_10 t h R = (wV fs out (b + 0) noT h (.bin .lss (.k (t 31)) (.k (t 30))) fun x32_0 h => R ⟨(upd t 32 x32_0), h⟩) := by kernel_rfl
def c5_10 : ACode := .region (o5_10.map (·.2)) [0] []
theorem s5_10 (h : wS fs out s.h.nx o5_10 s.t ⟨s.h.o, s.h.nx + 1⟩ (Q .normal)) : wC fs out c5_10 s Q := wC_region rfl rfl h
def c5_12 : ACode := .cond (.t 32) .skip (.exit 0) [1, 2, 7, 8, 9, 30, 31]
theorem s5_12 (h : onC (s.t 32) (Q .normal (keepOnly [1, 2, 7, 8, 9, 30, 31] s)) (Q (.exit 0) (keepOnly [1, 2, 7, 8, 9, 30, 31] s))) : wC fs out c5_12 s Q := wC_condC (by first | exact h | (simp only [wC_skip, wC_exit, wC_ret]; exact h))
def o5_16 : List (Nat × AOper) := (0, ⟨some 33, .mov (.t 31), none⟩) ::
   (1, ⟨some 10, .mov (.t 33), none⟩) ::
   []
theorem h5_16 : wS fs out b o5_16 t h R = (wV fs out (b + 0) noT h (.mov (.k (t 31))) fun x33_0 h => wV fs out (b + 1) noT h (.mov (.k x33_0)) fun x10_1 h => R ⟨(upd (upd t 33 x33_0) 10 x10_1), h⟩) := by kernel_rfl
def c5_16 : ACode := .region (o5_16.map (·.2)) [0, 1] []
theorem s5_16 (h : wS fs out s.h.nx o5_16 s.t ⟨s.h.o, s.h.nx + 2⟩ (Q .normal)) : wC fs out c5_16 s Q := wC_region rfl rfl h
def o5_17 : List (Nat × AOper) := (0, ⟨some 34, .mov (.t 8), none⟩) ::
   (1, ⟨some 35, .mov (.t 10), none⟩) ::
   (2, ⟨some 36, .iadr 4 (.t 34) (.t 35), none⟩) ::
   (3, ⟨some 37, .fadr 3 (.t 36), none⟩) ::
   (4, ⟨none, .store 1 (.t 37) (.k (.v (.one (.int .i64 (-1))))), none⟩) ::
   []
theorem h5_17 : wS fs out b o5_17 t h R = (wV fs out (b + 0) noT h (.mov (.k (t 8))) fun x34_0 h => wV fs out (b + 1) noT h (.mov (.k (t 10))) fun x35_1 h => wV fs out (b + 2) noT h (.iadr 4 (.k x34_0) (.k x35_1)) fun x36_2 h => wV fs out (b + 3) noT h (.fadr 3 (.k x36_2)) fun x37_3 h => wV fs out (b + 4) noT h (.store 1 (.k x37_3) (.k (.v (.one (.int .i64 (-1)))))) fun _ h => R ⟨(upd (upd (upd (upd t 34 x34_0) 35 x35_1) 36 x36_2) 37 x37_3), h⟩) := by kernel_rfl
def c5_17 : ACode := .region (o5_17.map (·.2)) [0, 1, 2, 3, 4] []
theorem s5_17 (h : wS fs out s.h.nx o5_17 s.t ⟨s.h.o, s.h.nx + 5⟩ (Q .normal)) : wC fs out c5_17 s Q := wC_region rfl rfl h
def c5_15 : ACode := .seq c5_16 c5_17
theorem s5_15 (h : wS fs out s.h.nx o5_16 s.t ⟨s.h.o, s.h.nx + 2⟩ fun s1 => wC fs out c5_17 s1 Q) : wC fs out c5_15 s Q := wC_seq (s5_16 h)
def c5_14 : ACode := .block 1 c5_15
theorem s5_14 (h : wC fs out c5_15 s fun e s1 => Q (if e = .exit 1 then .normal else e) s1) : wC fs out c5_14 s Q := wC_block h
def o5_18 : List (Nat × AOper) := (0, ⟨some 38, .bin .add (.t 31) (.k (.v (.one (.int .i64 1)))), none⟩) ::
   (1, ⟨some 31, .mov (.t 38), none⟩) ::
   []
theorem h5_18 : wS fs out b o5_18 t h R = (wV fs out (b + 0) noT h (.bin .add (.k (t 31)) (.k (.v (.one (.int .i64 1))))) fun x38_0 h => wV fs out (b + 1) noT h (.mov (.k x38_0)) fun x31_1 h => R ⟨(upd (upd t 38 x38_0) 31 x31_1), h⟩) := by kernel_rfl
def c5_18 : ACode := .region (o5_18.map (·.2)) [0, 1] []
theorem s5_18 (h : wS fs out s.h.nx o5_18 s.t ⟨s.h.o, s.h.nx + 2⟩ (Q .normal)) : wC fs out c5_18 s Q := wC_region rfl rfl h
def c5_13 : ACode := .seq c5_14 c5_18
theorem s5_13 (h : wC fs out c5_14 s fun e s1 => match e with | .normal => wC fs out c5_18 s1 Q | e => Q e s1) : wC fs out c5_13 s Q := wC_seq h
def c5_11 : ACode := .seq c5_12 c5_13
theorem s5_11 (h : onC (s.t 32) (wC fs out c5_13 (keepOnly [1, 2, 7, 8, 9, 30, 31] s) Q) (Q (.exit 0) (keepOnly [1, 2, 7, 8, 9, 30, 31] s))) : wC fs out c5_11 s Q := wC_seq (s5_12 h)
def c5_9 : ACode := .seq c5_10 c5_11
theorem s5_9 (h : wS fs out s.h.nx o5_10 s.t ⟨s.h.o, s.h.nx + 1⟩ fun s1 => wC fs out c5_11 s1 Q) : wC fs out c5_9 s Q := wC_seq (s5_10 h)
def c5_8 : ACode := .loop [1, 2, 7, 8, 9, 30, 31] c5_9
theorem s5_8 (I : Nat → St → Prop) (n : Nat) (h0 : I n (keepOnly [1, 2, 7, 8, 9, 30, 31] s)) (step : ∀ m s (Q' : AExit → St → Prop), I m s → (∀ m' s1, m' < m → I m' (keepOnly [1, 2, 7, 8, 9, 30, 31] s1) → Q' .normal s1) → (∀ i s1, Q (.exit i) s1 → Q' (.exit i) s1) → (∀ s1, Q .ret s1 → Q' .ret s1) → wC fs out c5_9 s Q') : wC fs out c5_8 s Q := wC_loopQ I n h0 step
def c5_7 : ACode := .block 0 c5_8
theorem s5_7 (h : wC fs out c5_8 s fun e s1 => Q (if e = .exit 0 then .normal else e) s1) : wC fs out c5_7 s Q := wC_block h
def c5_5 : ACode := .seq c5_6 c5_7
theorem s5_5 (h : wS fs out s.h.nx o5_6 s.t ⟨s.h.o, s.h.nx + 3⟩ fun s1 => wC fs out c5_7 s1 Q) : wC fs out c5_5 s Q := wC_seq (s5_6 h)
def o5_20_1 : List (Nat × AOper) := (4, ⟨some 39, .mov (.t 43), none⟩) ::
   (5, ⟨some 44, .ext 0 (.t 39), none⟩) ::
   (6, ⟨some 45, .ext 1 (.t 39), none⟩) ::
   (7, ⟨some 46, .ext 2 (.t 39), none⟩) ::
   (8, ⟨some 11, .mov (.t 44), none⟩) ::
   (9, ⟨some 12, .mov (.t 45), none⟩) ::
   (10, ⟨some 13, .mov (.t 46), none⟩) ::
   []
theorem h5_20_1 : wS fs out b o5_20_1 t h R = (wV fs out (b + 4) noT h (.mov (.k (t 43))) fun x39_0 h => wV fs out (b + 5) noT h (.ext 0 (.k x39_0)) fun x44_1 h => wV fs out (b + 6) noT h (.ext 1 (.k x39_0)) fun x45_2 h => wV fs out (b + 7) noT h (.ext 2 (.k x39_0)) fun x46_3 h => wV fs out (b + 8) noT h (.mov (.k x44_1)) fun x11_4 h => wV fs out (b + 9) noT h (.mov (.k x45_2)) fun x12_5 h => wV fs out (b + 10) noT h (.mov (.k x46_3)) fun x13_6 h => R ⟨(upd (upd (upd (upd (upd (upd (upd t 39 x39_0) 44 x44_1) 45 x45_2) 46 x46_3) 11 x11_4) 12 x12_5) 13 x13_6), h⟩) := by kernel_rfl
def o5_20 : List (Nat × AOper) := (0, ⟨some 40, .mov (.t 7), none⟩) ::
   (1, ⟨some 41, .mov (.t 8), none⟩) ::
   (2, ⟨some 42, .mov (.t 9), none⟩) ::
   (3, ⟨some 43, .call 13 [(.t 40), (.t 41), (.t 42)], none⟩) ::
   o5_20_1
theorem h5_20 : wS fs out b o5_20 t h R = (wV fs out (b + 0) noT h (.mov (.k (t 7))) fun x40_0 h => wV fs out (b + 1) noT h (.mov (.k (t 8))) fun x41_1 h => wV fs out (b + 2) noT h (.mov (.k (t 9))) fun x42_2 h => wV fs out (b + 3) noT h (.call 13 [(.k x40_0), (.k x41_1), (.k x42_2)]) fun x43_3 h => wS fs out b o5_20_1 (upd (upd (upd (upd t 40 x40_0) 41 x41_1) 42 x42_2) 43 x43_3) h R) := by kernel_rfl
def c5_20 : ACode := .region (o5_20.map (·.2)) [0, 1, 2, 3, 4, 5, 6, 7, 8, 9, 10] []
theorem s5_20 (h : wS fs out s.h.nx o5_20 s.t ⟨s.h.o, s.h.nx + 11⟩ (Q .normal)) : wC fs out c5_20 s Q := wC_region rfl rfl h
def o5_22_1 : List (Nat × AOper) := (2, ⟨some 14, .mov (.t 48), none⟩) ::
   []
theorem h5_22_1 : wS fs out b o5_22_1 t h R = (wV fs out (b + 2) noT h (.mov (.k (t 48))) fun x14_0 h => R ⟨(upd t 14 x14_0), h⟩) := by kernel_rfl
def o5_22 : List (Nat × AOper) := (0, ⟨some 47, .mov (.t 2), none⟩) ::
   (1, ⟨some 48, .call 15 [(.t 47), (.k (.v (.one (.int .i64 500))))], none⟩) ::
   o5_22_1
theorem h5_22 : wS fs out b o5_22 t h R = (wV fs out (b + 0) noT h (.mov (.k (t 2))) fun x47_0 h => wV fs out (b + 1) noT h (.call 15 [(.k x47_0), (.k (.v (.one (.int .i64 500))))]) fun x48_1 h => wS fs out b o5_22_1 (upd (upd t 47 x47_0) 48 x48_1) h R) := by kernel_rfl
def c5_22 : ACode := .region (o5_22.map (·.2)) [0, 1, 2] []
theorem s5_22 (h : wS fs out s.h.nx o5_22 s.t ⟨s.h.o, s.h.nx + 3⟩ (Q .normal)) : wC fs out c5_22 s Q := wC_region rfl rfl h
def o5_24_1 : List (Nat × AOper) := (4, ⟨some 15, .mov (.t 52), none⟩) ::
   []
theorem h5_24_1 : wS fs out b o5_24_1 t h R = (wV fs out (b + 4) noT h (.mov (.k (t 52))) fun x15_0 h => R ⟨(upd t 15 x15_0), h⟩) := by kernel_rfl
def o5_24 : List (Nat × AOper) := (0, ⟨some 49, .mov (.t 1), none⟩) ::
   (1, ⟨some 50, .mov (.t 7), none⟩) ::
   (2, ⟨some 51, .len (.t 50), none⟩) ::
   (3, ⟨some 52, .call 15 [(.t 49), (.t 51)], none⟩) ::
   o5_24_1
theorem h5_24 : wS fs out b o5_24 t h R = (wV fs out (b + 0) noT h (.mov (.k (t 1))) fun x49_0 h => wV fs out (b + 1) noT h (.mov (.k (t 7))) fun x50_1 h => wV fs out (b + 2) noT h (.len (.k x50_1)) fun x51_2 h => wV fs out (b + 3) noT h (.call 15 [(.k x49_0), (.k x51_2)]) fun x52_3 h => wS fs out b o5_24_1 (upd (upd (upd (upd t 49 x49_0) 50 x50_1) 51 x51_2) 52 x52_3) h R) := by kernel_rfl
def c5_24 : ACode := .region (o5_24.map (·.2)) [0, 1, 2, 3, 4] []
theorem s5_24 (h : wS fs out s.h.nx o5_24 s.t ⟨s.h.o, s.h.nx + 5⟩ (Q .normal)) : wC fs out c5_24 s Q := wC_region rfl rfl h
def o5_26_1 : List (Nat × AOper) := (2, ⟨some 16, .mov (.t 54), none⟩) ::
   []
theorem h5_26_1 : wS fs out b o5_26_1 t h R = (wV fs out (b + 2) noT h (.mov (.k (t 54))) fun x16_0 h => R ⟨(upd t 16 x16_0), h⟩) := by kernel_rfl
def o5_26 : List (Nat × AOper) := (0, ⟨some 53, .mov (.t 9), none⟩) ::
   (1, ⟨some 54, .app 39 2 16 (.k (.v (.one .nils))) (.t 53), none⟩) ::
   o5_26_1
theorem h5_26 : wS fs out b o5_26 t h R = (wV fs out (b + 0) noT h (.mov (.k (t 9))) fun x53_0 h => wV fs out (b + 1) noT h (.app 39 2 16 (.k (.v (.one .nils))) (.k x53_0)) fun x54_1 h => wS fs out b o5_26_1 (upd (upd t 53 x53_0) 54 x54_1) h R) := by kernel_rfl
def c5_26 : ACode := .region (o5_26.map (·.2)) [0, 1, 2] []
theorem s5_26 (h : wS fs out s.h.nx o5_26 s.t ⟨s.h.o, s.h.nx + 3⟩ (Q .normal)) : wC fs out c5_26 s Q := wC_region rfl rfl h
def o5_28 : List (Nat × AOper) := (0, ⟨some 17, .mov (.k (.v (.one (.bool false)))), none⟩) ::
   []
theorem h5_28 : wS fs out b o5_28 t h R = (wV fs out (b + 0) noT h (.mov (.k (.v (.one (.bool false))))) fun x17_0 h => R ⟨(upd t 17 x17_0), h⟩) := by kernel_rfl
def c5_28 : ACode := .region (o5_28.map (·.2)) [0] []
theorem s5_28 (h : wS fs out s.h.nx o5_28 s.t ⟨s.h.o, s.h.nx + 1⟩ (Q .normal)) : wC fs out c5_28 s Q := wC_region rfl rfl h
def o5_31 : List (Nat × AOper) := (0, ⟨some 55, .mov (.t 16), none⟩) ::
   (1, ⟨some 56, .len (.t 55), none⟩) ::
   (2, ⟨some 57, .mov (.k (.v (.one (.int .i64 0)))), none⟩) ::
   []
theorem h5_31 : wS fs out b o5_31 t h R = (wV fs out (b + 0) noT h (.mov (.k (t 16))) fun x55_0 h => wV fs out (b + 1) noT h (.len (.k x55_0)) fun x56_1 h => wV fs out (b + 2) noT h (.mov (.k (.v (.one (.int .i64 0))))) fun x57_2 h => R ⟨(upd (upd (upd t 55 x55_0) 56 x56_1) 57 x57_2), h⟩) := by kernel_rfl
def c5_31 : ACode := .region (o5_31.map (·.2)) [0, 1, 2] []
theorem s5_31 (h : wS fs out s.h.nx o5_31 s.t ⟨s.h.o, s.h.nx + 3⟩ (Q .normal)) : wC fs out c5_31 s Q := wC_region rfl rfl h
def o5_35 : List (Nat × AOper) := (0, ⟨some 58, .bin .lss (.t 57) (.t 56), none⟩) ::
   []
theorem h5_35 : wS fs out b o5_35 t h R = (wV fs out (b + 0) noT h (.bin .lss (.k (t 57)) (.k (t 56))) fun x58_0 h => R ⟨(upd t 58 x58_0), h⟩) := by kernel_rfl
def c5_35 : ACode := .region (o5_35.map (·.2)) [0] []
theorem s5_35 (h : wS fs out s.h.nx o5_35 s.t ⟨s.h.o, s.h.nx + 1⟩ (Q .normal)) : wC fs out c5_35 s Q := wC_region rfl rfl h
def c5_37 : ACode := .cond (.t 58) .skip (.exit 2) [7, 8, 11, 13, 14, 15, 16, 17, 56, 57]
theorem s5_37 (h : onC (s.t 58) (Q .normal (keepOnly [7, 8, 11, 13, 14, 15, 16, 17, 56, 57] s)) (Q (.exit 2) (keepOnly [7, 8, 11, 13, 14, 15, 16, 17, 56, 57] s))) : wC fs out c5_37 s Q := wC_condC (by first | exact h | (simp only [wC_skip, wC_exit, wC_ret]; exact h))
def o5_41 : List (Nat × AOper) := (0, ⟨some 59, .mov (.t 57), none⟩) ::
   (1, ⟨some 18, .mov (.t 59), none⟩) ::
   []
theorem h5_41 : wS fs out b o5_41 t h R = (wV fs out (b + 0) noT h (.mov (.k (t 57))) fun x59_0 h => wV fs out (b + 1) noT h (.mov (.k x59_0)) fun x18_1 h => R ⟨(upd (upd t 59 x59_0) 18 x18_1), h⟩) := by kernel_rfl
def c5_41 : ACode := .region (o5_41.map (·.2)) [0, 1] []
theorem s5_41 (h : wS fs out s.h.nx o5_41 s.t ⟨s.h.o, s.h.nx + 2⟩ (Q .normal)) : wC fs out c5_41 s Q := wC_region rfl rfl h
def o5_43 : List (Nat × AOper) := (0, ⟨some 60, .mov (.t 16), none⟩) ::
   (1, ⟨some 61, .mov (.t 18), none⟩) ::
   (2, ⟨some 62, .iadr 2 (.t 60) (.t 61), none⟩) ::
   (3, ⟨some 63, .fadr 0 (.t 62), none⟩) ::
   (4, ⟨some 64, .load none (.t 63), none⟩) ::
   (5, ⟨some 65, .mov (.t 15), none⟩) ::
   (6, ⟨some 66, .bin .eql (.t 64) (.t 65), none⟩) ::
   []
theorem h5_43 : wS fs out b o5_43 t h R = (wV fs out (b + 0) noT h (.mov (.k (t 16))) fun x60_0 h => wV fs out (b + 1) noT h (.mov (.k (t 18))) fun x61_1 h => wV fs out (b + 2) noT h (.iadr 2 (.k x60_0) (.k x61_1)) fun x62_2 h => wV fs out (b + 3) noT h (.fadr 0 (.k x62_2)) fun x63_3 h => wV fs out (b + 4) noT h (.load none (.k x63_3)) fun x64_4 h => wV fs out (b + 5) noT h (.mov (.k (t 15))) fun x65_5 h => wV fs out (b + 6) noT h (.bin .eql (.k x64_4) (.k x65_5)) fun x66_6 h => R ⟨(upd (upd (upd (upd (upd (upd (upd t 60 x60_0) 61 x61_1) 62 x62_2) 63 x63_3) 64 x64_4) 65 x65_5) 66 x66_6), h⟩) := by kernel_rfl
def c5_43 : ACode := .region (o5_43.map (·.2)) [0, 1, 2, 3, 4, 5, 6] []
theorem s5_43 (h : wS fs out s.h.nx o5_43 s.t ⟨s.h.o, s.h.nx + 7⟩ (Q .normal)) : wC fs out c5_43 s Q := wC_region rfl rfl h
def o5_46 : List (Nat × AOper) := (0, ⟨some 67, .mov (.t 16), none⟩) ::
   (1, ⟨some 68, .mov (.t 18), none⟩) ::
   (2, ⟨some 69, .iadr 2 (.t 67) (.t 68), none⟩) ::
   (3, ⟨some 70, .fadr 1 (.t 69), none⟩) ::
   (4, ⟨some 71, .load none (.t 70), none⟩) ::
   (5, ⟨some 72, .mov (.t 14), none⟩) ::
   (6, ⟨some 73, .bin .add (.t 71) (.t 72), none⟩) ::
   (7, ⟨some 74, .iadr 2 (.t 67) (.t 68), none⟩) ::
   (8, ⟨some 75, .fadr 1 (.t 74), none⟩) ::
   (9, ⟨none, .store 1 (.t 75) (.t 73), none⟩) ::
   []
theorem h5_46 : wS fs out b o5_46 t h R = (wV fs out (b + 0) noT h (.mov (.k (t 16))) fun x67_0 h => wV fs out (b + 1) noT h (.mov (.k (t 18))) fun x68_1 h => wV fs out (b + 2) noT h (.iadr 2 (.k x67_0) (.k x68_1)) fun x69_2 h => wV fs out (b + 3) noT h (.fadr 1 (.k x69_2)) fun x70_3 h => wV fs out (b + 4) noT h (.load none (.k x70_3)) fun x71_4 h => wV fs out (b + 5) noT h (.mov (.k (t 14))) fun x72_5 h => wV fs out (b + 6) noT h (.bin .add (.k x71_4) (.k x72_5)) fun x73_6 h => wV fs out (b + 7) noT h (.iadr 2 (.k x67_0) (.k x68_1)) fun x74_7 h => wV fs out (b + 8) noT h (.fadr 1 (.k x74_7)) fun x75_8 h => wV fs out (b + 9) noT h (.store 1 (.k x75_8) (.k x73_6)) fun _ h => R ⟨(upd (upd (upd (upd (upd (upd (upd (upd (upd t 67 x67_0) 68 x68_1) 69 x69_2) 70 x70_3) 71 x71_4) 72 x72_5) 73 x73_6) 74 x74_7) 75 x75_8), h⟩) := by kernel_rfl
def c5_46 : ACode := .region (o5_46.map (·.2)) [0, 1, 2, 3, 4, 5, 6, 7, 8, 9] []
theorem s5_46 (h : wS fs out s.h.nx o5_46 s.t ⟨s.h.o, s.h.nx + 10⟩ (Q .normal)) : wC fs out c5_46 s Q := wC_region rfl rfl h
def o5_47 : List (Nat × AOper) := (0, ⟨some 17, .mov (.k (.v (.one (.bool true)))), none⟩) ::
   []
theorem h5_47 : wS fs out b o5_47 t h R = (wV fs out (b + 0) noT h (.mov (.k (.v (.one (.bool true))))) fun x17_0 h => R ⟨(upd t 17 x17_0), h⟩) := by kernel_rfl
def c5_47 : ACode := .region (o5_47.map (·.2)) [0] []
theorem s5_47 (h : wS fs out s.h.nx o5_47 s.t ⟨s.h.o, s.h.nx + 1⟩ (Q .normal)) : wC fs out c5_47 s Q := wC_region rfl rfl h
def c5_45 : ACode := .seq c5_46 c5_47
theorem s5_45 (h : wS fs out s.h.nx o5_46 s.t ⟨s.h.o, s.h.nx + 10⟩ fun s1 => wC fs out c5_47 s1 Q) : wC fs out c5_45 s Q := wC_seq (s5_46 h)
def c5_44 : ACode := .cond (.t 66) c5_45 .skip [7, 8, 11, 13, 14, 15, 16, 17, 56, 57]
theorem s5_44 (h : onC (s.t 66) (wC fs out c5_45 s fun e s1 => Q e (keepOnly [7, 8, 11, 13, 14, 15, 16, 17, 56, 57] s1)) (Q .normal (keepOnly [7, 8, 11, 13, 14, 15, 16, 17, 56, 57] s))) : wC fs out c5_44 s Q := wC_condC (by first | exact h | (simp only [wC_skip, wC_exit, wC_ret]; exact h))
def c5_42 : ACode := .seq c5_43 c5_44
theorem s5_42 (h : wS fs out s.h.nx o5_43 s.t ⟨s.h.o, s.h.nx + 7⟩ fun s1 => wC fs out c5_44 s1 Q) : wC fs out c5_42 s Q := wC_seq (s5_43 h)
def c5_40 : ACode := .seq c5_41 c5_42
theorem s5_40 (h : wS fs out s.h.nx o5_41 s.t ⟨s.h.o, s.h.nx + 2⟩ fun s1 => wC fs out c5_42 s1 Q) : wC fs out c5_40 s Q := wC_seq (s5_41 h)
def c5_39 : ACode := .block 3 c5_40
theorem s5_39 (h : wC fs out c5_40 s fun e s1 => Q (if e = .exit 3 then .normal else e) s1) : wC fs out c5_39 s Q := wC_block h
def o5_48 : List (Nat × AOper) := (0, ⟨some 76, .bin .add (.t 57) (.k (.v (.one (.int .i64 1)))), none⟩) ::
   (1, ⟨some 57, .mov (.t 76), none⟩) ::
   []
theorem h5_48 : wS fs out b o5_48 t h R = (wV fs out (b + 0) noT h (.bin .add (.k (t 57)) (.k (.v (.one (.int .i64 1))))) fun x76_0 h => wV fs out (b + 1) noT h (.mov (.k x76_0)) fun x57_1 h => R ⟨(upd (upd t 76 x76_0) 57 x57_1), h⟩) := by kernel_rfl
def c5_48 : ACode := .region (o5_48.map (·.2)) [0, 1] []
theorem s5_48 (h : wS fs out s.h.nx o5_48 s.t ⟨s.h.o, s.h.nx + 2⟩ (Q .normal)) : wC fs out c5_48 s Q := wC_region rfl rfl h
def c5_38 : ACode := .seq c5_39 c5_48
theorem s5_38 (h : wC fs out c5_39 s fun e s1 => match e with | .normal => wC fs out c5_48 s1 Q | e => Q e s1) : wC fs out c5_38 s Q := wC_seq h
def c5_36 : ACode := .seq c5_37 c5_38
theorem s5_36 (h : onC (s.t 58) (wC fs out c5_38 (keepOnly [7, 8, 11, 13, 14, 15, 16, 17, 56, 57] s) Q) (Q (.exit 2) (keepOnly [7, 8, 11, 13, 14, 15, 16, 17, 56, 57] s))) : wC fs out c5_36 s Q := wC_seq (s5_37 h)
def c5_34 : ACode := .seq c5_35 c5_36
theorem s5_34 (h : wS fs out s.h.nx o5_35 s.t ⟨s.h.o, s.h.nx + 1⟩ fun s1 => wC fs out c5_36 s1 Q) : wC fs out c5_34 s Q := wC_seq (s5_35 h)
def c5_33 : ACode := .loop [7, 8, 11, 13, 14, 15, 16, 17, 56, 57] c5_34
theorem s5_33 (I : Nat → St → Prop) (n : Nat) (h0 : I n (keepOnly [7, 8, 11, 13, 14, 15, 16, 17, 56, 57] s)) (step : ∀ m s (Q' : AExit → St → Prop), I m s → (∀ m' s1, m' < m → I m' (keepOnly [7, 8, 11, 13, 14, 15, 16, 17, 56, 57] s1) → Q' .normal s1) → (∀ i s1, Q (.exit i) s1 → Q' (.exit i) s1) → (∀ s1, Q .ret s1 → Q' .ret s1) → wC fs out c5_34 s Q') : wC fs out c5_33 s Q := wC_loopQ I n h0 step
def c5_32 : ACode := .block 2 c5_33
theorem s5_32 (h : wC fs out c5_33 s fun e s1 => Q (if e = .exit 2 then .normal else e) s1) : wC fs out c5_32 s Q := wC_block h
def c5_30 : ACode := .seq c5_31 c5_32
theorem s5_30 (h : wS fs out s.h.nx o5_31 s.t ⟨s.h.o, s.h.nx + 3⟩ fun s1 => wC fs out c5_32 s1 Q) : wC fs out c5_30 s Q := wC_seq (s5_31 h)
def o5_51 : List (Nat × AOper) := (0, ⟨some 77, .mov (.t 17), none⟩) ::
   (1, ⟨some 78, .not (.t 77), none⟩) ::
   []
theorem h5_51 : wS fs out b o5_51 t h R = (wV fs out (b + 0) noT h (.mov (.k (t 17))) fun x77_0 h => wV fs out (b + 1) noT h (.not (.k x77_0)) fun x78_1 h => R ⟨(upd (upd t 77 x77_0) 78 x78_1), h⟩) := by kernel_rfl
def c5_51 : ACode := .region (o5_51.map (·.2)) [0, 1] []
theorem s5_51 (h : wS fs out s.h.nx o5_51 s.t ⟨s.h.o, s.h.nx + 2⟩ (Q .normal)) : wC fs out c5_51 s Q := wC_region rfl rfl h
def o5_53_1 : List (Nat × AOper) := (6, ⟨some 16, .mov (.t 84), none⟩) ::
   []
theorem h5_53_1 : wS fs out b o5_53_1 t h R = (wV fs out (b + 6) noT h (.mov (.k (t 84))) fun x16_0 h => R ⟨(upd t 16 x16_0), h⟩) := by kernel_rfl
def o5_53 : List (Nat × AOper) := (0, ⟨some 79, .mov (.t 16), none⟩) ::
   (1, ⟨some 80, .mov (.t 15), none⟩) ::
   (2, ⟨some 81, .mov (.t 14), none⟩) ::
   (3, ⟨some 82, .build [(.int .i64 0), (.int .i64 0)] [(0, 1, (.t 80)), (1, 1, (.t 81))], none⟩) ::
   (4, ⟨some 83, .bsl 39 2 1 [(.int .i64 0), (.int .i64 0)] [(0, 2, (.t 82))], none⟩) ::
   (5, ⟨some 84, .app 39 2 16 (.t 79) (.t 83), none⟩) ::
   o5_53_1
theorem h5_53 : wS fs out b o5_53 t h R = (wV fs out (b + 0) noT h (.mov (.k (t 16))) fun x79_0 h => wV fs out (b + 1) noT h (.mov (.k (t 15))) fun x80_1 h => wV fs out (b + 2) noT h (.mov (.k (t 14))) fun x81_2 h => wV fs out (b + 3) noT h (.build [(.int .i64 0), (.int .i64 0)] [(0, 1, (.k x80_1)), (1, 1, (.k x81_2))]) fun x82_3 h => wV fs out (b + 4) noT h (.bsl 39 2 1 [(.int .i64 0), (.int .i64 0)] [(0, 2, (.k x82_3))]) fun x83_4 h => wV fs out (b + 5) noT h (.app 39 2 16 (.k x79_0) (.k x83_4)) fun x84_5 h => wS fs out b o5_53_1 (upd (upd (upd (upd (upd (upd t 79 x79_0) 80 x80_1) 81 x81_2) 82 x82_3) 83 x83_4) 84 x84_5) h R) := by kernel_rfl
def c5_53 : ACode := .region (o5_53.map (·.2)) [0, 1, 2, 3, 4, 5, 6] []
theorem s5_53 (h : wS fs out s.h.nx o5_53 s.t ⟨s.h.o, s.h.nx + 7⟩ (Q .normal)) : wC fs out c5_53 s Q := wC_region rfl rfl h
def c5_52 : ACode := .cond (.t 78) c5_53 .skip [7, 8, 11, 13, 14, 15, 16]
theorem s5_52 (h : onC (s.t 78) (wC fs out c5_53 s fun e s1 => Q e (keepOnly [7, 8, 11, 13, 14, 15, 16] s1)) (Q .normal (keepOnly [7, 8, 11, 13, 14, 15, 16] s))) : wC fs out c5_52 s Q := wC_condC (by first | exact h | (simp only [wC_skip, wC_exit, wC_ret]; exact h))
def c5_50 : ACode := .seq c5_51 c5_52
theorem s5_50 (h : wS fs out s.h.nx o5_51 s.t ⟨s.h.o, s.h.nx + 2⟩ fun s1 => wC fs out c5_52 s1 Q) : wC fs out c5_50 s Q := wC_seq (s5_51 h)
def o5_55_1 : List (Nat × AOper) := (4, ⟨some 85, .mov (.t 89), none⟩) ::
   (5, ⟨some 90, .ext 0 (.t 85), none⟩) ::
   (6, ⟨some 91, .ext 1 (.t 85), none⟩) ::
   (7, ⟨some 92, .ext 2 (.t 85), none⟩) ::
   (8, ⟨some 19, .mov (.t 90), none⟩) ::
   (9, ⟨some 20, .mov (.t 91), none⟩) ::
   (10, ⟨some 21, .mov (.t 92), none⟩) ::
   []
theorem h5_55_1 : wS fs out b o5_55_1 t h R = (wV fs out (b + 4) noT h (.mov (.k (t 89))) fun x85_0 h => wV fs out (b + 5) noT h (.ext 0 (.k x85_0)) fun x90_1 h => wV fs out (b + 6) noT h (.ext 1 (.k x85_0)) fun x91_2 h => wV fs out (b + 7) noT h (.ext 2 (.k x85_0)) fun x92_3 h => wV fs out (b + 8) noT h (.mov (.k x90_1)) fun x19_4 h => wV fs out (b + 9) noT h (.mov (.k x91_2)) fun x20_5 h => wV fs out (b + 10) noT h (.mov (.k x92_3)) fun x21_6 h => R ⟨(upd (upd (upd (upd (upd (upd (upd t 85 x85_0) 90 x90_1) 91 x91_2) 92 x92_3) 19 x19_4) 20 x20_5) 21 x21_6), h⟩) := by kernel_rfl
def o5_55 : List (Nat × AOper) := (0, ⟨some 86, .mov (.t 7), none⟩) ::
   (1, ⟨some 87, .mov (.t 8), none⟩) ::
   (2, ⟨some 88, .mov (.t 16), none⟩) ::
   (3, ⟨some 89, .call 13 [(.t 86), (.t 87), (.t 88)], none⟩) ::
   o5_55_1
theorem h5_55 : wS fs out b o5_55 t h R = (wV fs out (b + 0) noT h (.mov (.k (t 7))) fun x86_0 h => wV fs out (b + 1) noT h (.mov (.k (t 8))) fun x87_1 h => wV fs out (b + 2) noT h (.mov (.k (t 16))) fun x88_2 h => wV fs out (b + 3) noT h (.call 13 [(.k x86_0), (.k x87_1), (.k x88_2)]) fun x89_3 h => wS fs out b o5_55_1 (upd (upd (upd (upd t 86 x86_0) 87 x87_1) 88 x88_2) 89 x89_3) h R) := by kernel_rfl
def c5_55 : ACode := .region (o5_55.map (·.2)) [0, 1, 2, 3, 4, 5, 6, 7, 8, 9, 10] []
theorem s5_55 (h : wS fs out s.h.nx o5_55 s.t ⟨s.h.o, s.h.nx + 11⟩ (Q .normal)) : wC fs out c5_55 s Q := wC_region rfl rfl h
def o5_58_6 : List (Nat × AOper) := (19, ⟨some 112, .pick (.t 106) (.k (.v (.one (.bool true)))) (.t 111), none⟩) ::
   []
theorem h5_58_6 : wS fs out b o5_58_6 t h R = (wV fs out (b + 19) noT h (.pick (.k (t 106)) (.k (.v (.one (.bool true)))) (.k (t 111))) fun x112_0 h => R ⟨(upd t 112 x112_0), h⟩) := by kernel_rfl
def o5_58_5g : List (Nat × AOper) := (14, ⟨some 107, .mov (.t 19), none⟩) ::
   (15, ⟨some 108, .len (.t 107), none⟩) ::
   (16, ⟨some 109, .mov (.t 7), none⟩) ::
   (17, ⟨some 110, .len (.t 109), none⟩) ::
   (18, ⟨some 111, .bin .neq (.t 108) (.t 110), none⟩) ::
   []
theorem h5_58_5g : wS fs out b o5_58_5g t h R = (wV fs out (b + 14) noT h (.mov (.k (t 19))) fun x107_0 h => wV fs out (b + 15) noT h (.len (.k x107_0)) fun x108_1 h => wV fs out (b + 16) noT h (.mov (.k (t 7))) fun x109_2 h => wV fs out (b + 17) noT h (.len (.k x109_2)) fun x110_3 h => wV fs out (b + 18) noT h (.bin .neq (.k x108_1) (.k x110_3)) fun x111_4 h => R ⟨(upd (upd (upd (upd (upd t 107 x107_0) 108 x108_1) 109 x109_2) 110 x110_3) 111 x111_4), h⟩) := by kernel_rfl
def o5_58_5 : List (Nat × AOper) := grp 106 false o5_58_5g o5_58_6
theorem w5_58_5 : wS fs out b o5_58_5 t h R = onG (t 106) false (wS fs out b o5_58_5g (upd t 106 (.v (.one (.bool false)))) h fun s => wS fs out b o5_58_6 s.t s.h R) (wS fs out b o5_58_6 (upd (upd (upd (upd (upd (upd t 106 (.v (.one (.bool true)))) 107 (.tup [])) 108 (.tup [])) 109 (.tup [])) 110 (.tup [])) 111 (.tup [])) h R) (wS fs out b o5_58_6 (upd (upd (upd (upd (upd t 107 (.tup [])) 108 (.tup [])) 109 (.tup [])) 110 (.tup [])) 111 (.tup [])) h R) := wS_grpE rfl
def o5_58_4 : List (Nat × AOper) := (12, ⟨some 105, .pick (.t 99) (.k (.v (.one (.bool true)))) (.t 104), none⟩) ::
   (13, ⟨some 106, .mov (.t 105), none⟩) ::
   o5_58_5
theorem h5_58_4 : wS fs out b o5_58_4 t h R = (wV fs out (b + 12) noT h (.pick (.k (t 99)) (.k (.v (.one (.bool true)))) (.k (t 104))) fun x105_0 h => wV fs out (b + 13) noT h (.mov (.k x105_0)) fun x106_1 h => wS fs out b o5_58_5 (upd (upd t 105 x105_0) 106 x106_1) h R) := by kernel_rfl
def o5_58_3g : List (Nat × AOper) := (7, ⟨some 100, .mov (.t 11), none⟩) ::
   (8, ⟨some 101, .len (.t 100), none⟩) ::
   (9, ⟨some 102, .mov (.t 7), none⟩) ::
   (10, ⟨some 103, .len (.t 102), none⟩) ::
   (11, ⟨some 104, .bin .neq (.t 101) (.t 103), none⟩) ::
   []
theorem h5_58_3g : wS fs out b o5_58_3g t h R = (wV fs out (b + 7) noT h (.mov (.k (t 11))) fun x100_0 h => wV fs out (b + 8) noT h (.len (.k x100_0)) fun x101_1 h => wV fs out (b + 9) noT h (.mov (.k (t 7))) fun x102_2 h => wV fs out (b + 10) noT h (.len (.k x102_2)) fun x103_3 h => wV fs out (b + 11) noT h (.bin .neq (.k x101_1) (.k x103_3)) fun x104_4 h => R ⟨(upd (upd (upd (upd (upd t 100 x100_0) 101 x101_1) 102 x102_2) 103 x103_3) 104 x104_4), h⟩) := by kernel_rfl
def o5_58_3 : List (Nat × AOper) := grp 99 false o5_58_3g o5_58_4
theorem w5_58_3 : wS fs out b o5_58_3 t h R = onG (t 99) false (wS fs out b o5_58_3g (upd t 99 (.v (.one (.bool false)))) h fun s => wS fs out b o5_58_4 s.t s.h R) (wS fs out b o5_58_4 (upd (upd (upd (upd (upd (upd t 99 (.v (.one (.bool true)))) 100 (.tup [])) 101 (.tup [])) 102 (.tup [])) 103 (.tup [])) 104 (.tup [])) h R) (wS fs out b o5_58_4 (upd (upd (upd (upd (upd t 100 (.tup [])) 101 (.tup [])) 102 (.tup [])) 103 (.tup [])) 104 (.tup [])) h R) := wS_grpE rfl
def o5_58_2 : List (Nat × AOper) := (5, ⟨some 98, .pick (.t 95) (.k (.v (.one (.bool true)))) (.t 97), none⟩) ::
   (6, ⟨some 99, .mov (.t 98), none⟩) ::
   o5_58_3
theorem h5_58_2 : wS fs out b o5_58_2 t h R = (wV fs out (b + 5) noT h (.pick (.k (t 95)) (.k (.v (.one (.bool true)))) (.k (t 97))) fun x98_0 h => wV fs out (b + 6) noT h (.mov (.k x98_0)) fun x99_1 h => wS fs out b o5_58_3 (upd (upd t 98 x98_0) 99 x99_1) h R) := by kernel_rfl
def o5_58_1g : List (Nat × AOper) := (3, ⟨some 96, .mov (.t 21), none⟩) ::
   (4, ⟨some 97, .bin .neq (.t 96) (.k (.v (.one (.int .i64 0)))), none⟩) ::
   []
theorem h5_58_1g : wS fs out b o5_58_1g t h R = (wV fs out (b + 3) noT h (.mov (.k (t 21))) fun x96_0 h => wV fs out (b + 4) noT h (.bin .neq (.k x96_0) (.k (.v (.one (.int .i64 0))))) fun x97_1 h => R ⟨(upd (upd t 96 x96_0) 97 x97_1), h⟩) := by kernel_rfl
def o5_58_1 : List (Nat × AOper) := grp 95 false o5_58_1g o5_58_2
theorem w5_58_1 : wS fs out b o5_58_1 t h R = onG (t 95) false (wS fs out b o5_58_1g (upd t 95 (.v (.one (.bool false)))) h fun s => wS fs out b o5_58_2 s.t s.h R) (wS fs out b o5_58_2 (upd (upd (upd t 95 (.v (.one (.bool true)))) 96 (.tup [])) 97 (.tup [])) h R) (wS fs out b o5_58_2 (upd (upd t 96 (.tup [])) 97 (.tup [])) h R) := wS_grpE rfl
def o5_58 : List (Nat × AOper) := (0, ⟨some 93, .mov (.t 13), none⟩) ::
   (1, ⟨some 94, .bin .neq (.t 93) (.k (.v (.one (.int .i64 0)))), none⟩) ::
   (2, ⟨some 95, .mov (.t 94), none⟩) ::
   o5_58_1
theorem h5_58 : wS fs out b o5_58 t h R = (wV fs out (b + 0) noT h (.mov (.k (t 13))) fun x93_0 h => wV fs out (b + 1) noT h (.bin .neq (.k x93_0) (.k (.v (.one (.int .i64 0))))) fun x94_1 h => wV fs out (b + 2) noT h (.mov (.k x94_1)) fun x95_2 h => wS fs out b o5_58_1 (upd (upd (upd t 93 x93_0) 94 x94_1) 95 x95_2) h R) := by kernel_rfl
def c5_58 : ACode := .region (o5_58.map (·.2)) [0, 1, 2, 3, 4, 5, 6, 7, 8, 9, 10, 11, 12, 13, 14, 15, 16, 17, 18, 19] []
theorem s5_58 (h : wS fs out s.h.nx o5_58 s.t ⟨s.h.o, s.h.nx + 20⟩ (Q .normal)) : wC fs out c5_58 s Q := wC_region rfl rfl h
def o5_61 : List (Nat × AOper) := (0, ⟨some 6, .mov (.k (.v (.one (.bool false)))), none⟩) ::
   []
theorem h5_61 : wS fs out b o5_61 t h R = (wV fs out (b + 0) noT h (.mov (.k (.v (.one (.bool false))))) fun x6_0 h => R ⟨(upd t 6 x6_0), h⟩) := by kernel_rfl
def c5_61 : ACode := .region (o5_61.map (·.2)) [0] []
theorem s5_61 (h : wS fs out s.h.nx o5_61 s.t ⟨s.h.o, s.h.nx + 1⟩ (Q .normal)) : wC fs out c5_61 s Q := wC_region rfl rfl h
def c5_60 : ACode := .seq c5_61 .ret
theorem s5_60 (h : wS fs out s.h.nx o5_61 s.t ⟨s.h.o, s.h.nx + 1⟩ fun s1 => wC fs out .ret s1 Q) : wC fs out c5_60 s Q := wC_seq (s5_61 h)
def c5_59 : ACode := .cond (.t 112) c5_60 .skip [6, 7, 11, 14, 15, 19]
theorem s5_59 (h : onC (s.t 112) (wC fs out c5_60 s fun e s1 => Q e (keepOnly [6, 7, 11, 14, 15, 19] s1)) (Q .normal (keepOnly [6, 7, 11, 14, 15, 19] s))) : wC fs out c5_59 s Q := wC_condC (by first | exact h | (simp only [wC_skip, wC_exit, wC_ret]; exact h))
def c5_57 : ACode := .seq c5_58 c5_59
theorem s5_57 (h : wS fs out s.h.nx o5_58 s.t ⟨s.h.o, s.h.nx + 20⟩ fun s1 => wC fs out c5_59 s1 Q) : wC fs out c5_57 s Q := wC_seq (s5_58 h)
def o5_64 : List (Nat × AOper) := (0, ⟨some 113, .mov (.t 7), none⟩) ::
   (1, ⟨some 114, .len (.t 113), none⟩) ::
   (2, ⟨some 115, .mov (.k (.v (.one (.int .i64 0)))), none⟩) ::
   []
theorem h5_64 : wS fs out b o5_64 t h R = (wV fs out (b + 0) noT h (.mov (.k (t 7))) fun x113_0 h => wV fs out (b + 1) noT h (.len (.k x113_0)) fun x114_1 h => wV fs out (b + 2) noT h (.mov (.k (.v (.one (.int .i64 0))))) fun x115_2 h => R ⟨(upd (upd (upd t 113 x113_0) 114 x114_1) 115 x115_2), h⟩) := by kernel_rfl
def c5_64 : ACode := .region (o5_64.map (·.2)) [0, 1, 2] []
theorem s5_64 (h : wS fs out s.h.nx o5_64 s.t ⟨s.h.o, s.h.nx + 3⟩ (Q .normal)) : wC fs out c5_64 s Q := wC_region rfl rfl h
def o5_68 : List (Nat × AOper) := (0, ⟨some 116, .bin .lss (.t 115) (.t 114), none⟩) ::
   []
theorem h5_68 : wS fs out b o5_68 t h R = (wV fs out (b + 0) noT h (.bin .lss (.k (t 115)) (.k (t 114))) fun x116_0 h => R ⟨(upd t 116 x116_0), h⟩) := by kernel_rfl
def c5_68 : ACode := .region (o5_68.map (·.2)) [0] []
theorem s5_68 (h : wS fs out s.h.nx o5_68 s.t ⟨s.h.o, s.h.nx + 1⟩ (Q .normal)) : wC fs out c5_68 s Q := wC_region rfl rfl h
def c5_70 : ACode := .cond (.t 116) .skip (.exit 4) [11, 14, 15, 19, 114, 115]
theorem s5_70 (h : onC (s.t 116) (Q .normal (keepOnly [11, 14, 15, 19, 114, 115] s)) (Q (.exit 4) (keepOnly [11, 14, 15, 19, 114, 115] s))) : wC fs out c5_70 s Q := wC_condC (by first | exact h | (simp only [wC_skip, wC_exit, wC_ret]; exact h))
def o5_74 : List (Nat × AOper) := (0, ⟨some 117, .mov (.t 115), none⟩) ::
   (1, ⟨some 22, .mov (.t 117), none⟩) ::
   []
theorem h5_74 : wS fs out b o5_74 t h R = (wV fs out (b + 0) noT h (.mov (.k (t 115))) fun x117_0 h => wV fs out (b + 1) noT h (.mov (.k x117_0)) fun x22_1 h => R ⟨(upd (upd t 117 x117_0) 22 x22_1), h⟩) := by kernel_rfl
def c5_74 : ACode := .region (o5_74.map (·.2)) [0, 1] []
theorem s5_74 (h : wS fs out s.h.nx o5_74 s.t ⟨s.h.o, s.h.nx + 2⟩ (Q .normal)) : wC fs out c5_74 s Q := wC_region rfl rfl h
def o5_76_2 : List (Nat × AOper) := (21, ⟨some 139, .pick (.t 127) (.k (.v (.one (.bool true)))) (.t 138), none⟩) ::
   []
theorem h5_76_2 : wS fs out b o5_76_2 t h R = (wV fs out (b + 21) noT h (.pick (.k (t 127)) (.k (.v (.one (.bool true)))) (.k (t 138))) fun x139_0 h => R ⟨(upd t 139 x139_0), h⟩) := by kernel_rfl
def o5_76_1g_1 : List (Nat × AOper) := (20, ⟨some 138, .bin .gtr (.t 131) (.t 137), none⟩) ::
   []
theorem h5_76_1g_1 : wS fs out b o5_76_1g_1 t h R = (wV fs out (b + 20) noT h (.bin .gtr (.k (t 131)) (.k (t 137))) fun x138_0 h => R ⟨(upd t 138 x138_0), h⟩) := by kernel_rfl
def o5_76_1g : List (Nat × AOper) := (10, ⟨some 128, .mov (.t 19), none⟩) ::
   (11, ⟨some 129, .mov (.t 22), none⟩) ::
   (12, ⟨some 130, .iadr 1 (.t 128) (.t 129), none⟩) ::
   (13, ⟨some 131, .load none (.t 130), none⟩) ::
   (14, ⟨some 132, .mov (.t 11), none⟩) ::
   (15, ⟨some 133, .mov (.t 22), none⟩) ::
   (16, ⟨some 134, .iadr 1 (.t 132) (.t 133), none⟩) ::
   (17, ⟨some 135, .load none (.t 134), none⟩) ::
   (18, ⟨some 136, .mov (.t 14), none⟩) ::
   (19, ⟨some 137, .bin .add (.t 135) (.t 136), none⟩) ::
   o5_76_1g_1
theorem h5_76_1g : wS fs out b o5_76_1g t h R = (wV fs out (b + 10) noT h (.mov (.k (t 19))) fun x128_0 h => wV fs out (b + 11) noT h (.mov (.k (t 22))) fun x129_1 h => wV fs out (b + 12) noT h (.iadr 1 (.k x128_0) (.k x129_1)) fun x130_2 h => wV fs out (b + 13) noT h (.load none (.k x130_2)) fun x131_3 h => wV fs out (b + 14) noT h (.mov (.k (t 11))) fun x132_4 h => wV fs out (b + 15) noT h (.mov (.k (t 22))) fun x133_5 h => wV fs out (b + 16) noT h (.iadr 1 (.k x132_4) (.k x133_5)) fun x134_6 h => wV fs out (b + 17) noT h (.load none (.k x134_6)) fun x135_7 h => wV fs out (b + 18) noT h (.mov (.k (t 14))) fun x136_8 h => wV fs out (b + 19) noT h (.bin .add (.k x135_7) (.k x136_8)) fun x137_9 h => wS fs out b o5_76_1g_1 (upd (upd (upd (upd (upd (upd (upd (upd (upd (upd t 128 x128_0) 129 x129_1) 130 x130_2) 131 x131_3) 132 x132_4) 133 x133_5) 134 x134_6) 135 x135_7) 136 x136_8) 137 x137_9) h R) := by kernel_rfl
def o5_76_1 : List (Nat × AOper) := grp 127 false o5_76_1g o5_76_2
theorem w5_76_1 : wS fs out b o5_76_1 t h R = onG (t 127) false (wS fs out b o5_76_1g (upd t 127 (.v (.one (.bool false)))) h fun s => wS fs out b o5_76_2 s.t s.h R) (wS fs out b o5_76_2 (upd (upd (upd (upd (upd (upd (upd (upd (upd (upd (upd (upd t 127 (.v (.one (.bool true)))) 128 (.tup [])) 129 (.tup [])) 130 (.tup [])) 131 (.tup [])) 132 (.tup [])) 133 (.tup [])) 134 (.tup [])) 135 (.tup [])) 136 (.tup [])) 137 (.tup [])) 138 (.tup [])) h R) (wS fs out b o5_76_2 (upd (upd (upd (upd (upd (upd (upd (upd (upd (upd (upd t 128 (.tup [])) 129 (.tup [])) 130 (.tup [])) 131 (.tup [])) 132 (.tup [])) 133 (.tup [])) 134 (.tup [])) 135 (.tup [])) 136 (.tup [])) 137 (.tup [])) 138 (.tup [])) h R) := wS_grpE rfl
def o5_76 : List (Nat × AOper) := (0, ⟨some 118, .mov (.t 19), none⟩) ::
   (1, ⟨some 119, .mov (.t 22), none⟩) ::
   (2, ⟨some 120, .iadr 1 (.t 118) (.t 119), none⟩) ::
   (3, ⟨some 121, .load none (.t 120), none⟩) ::
   (4, ⟨some 122, .mov (.t 11), none⟩) ::
   (5, ⟨some 123, .mov (.t 22), none⟩) ::
   (6, ⟨some 124, .iadr 1 (.t 122) (.t 123), none⟩) ::
   (7, ⟨some 125, .load none (.t 124), none⟩) ::
   (8, ⟨some 126, .bin .lss (.t 121) (.t 125), none⟩) ::
   (9, ⟨some 127, .mov (.t 126), none⟩) ::
   o5_76_1
theorem h5_76 : wS fs out b o5_76 t h R = (wV fs out (b + 0) noT h (.mov (.k (t 19))) fun x118_0 h => wV fs out (b + 1) noT h (.mov (.k (t 22))) fun x119_1 h => wV fs out (b + 2) noT h (.iadr 1 (.k x118_0) (.k x119_1)) fun x120_2 h => wV fs out (b + 3) noT h (.load none (.k x120_2)) fun x121_3 h => wV fs out (b + 4) noT h (.mov (.k (t 11))) fun x122_4 h => wV fs out (b + 5) noT h (.mov (.k (t 22))) fun x123_5 h => wV fs out (b + 6) noT h (.iadr 1 (.k x122_4) (.k x123_5)) fun x124_6 h => wV fs out (b + 7) noT h (.load none (.k x124_6)) fun x125_7 h => wV fs out (b + 8) noT h (.bin .lss (.k x121_3) (.k x125_7)) fun x126_8 h => wV fs out (b + 9) noT h (.mov (.k x126_8)) fun x127_9 h => wS fs out b o5_76_1 (upd (upd (upd (upd (upd (upd (upd (upd (upd (upd t 118 x118_0) 119 x119_1) 120 x120_2) 121 x121_3) 122 x122_4) 123 x123_5) 124 x124_6) 125 x125_7) 126 x126_8) 127 x127_9) h R) := by kernel_rfl
def c5_76 : ACode := .region (o5_76.map (·.2)) [0, 1, 2, 3, 4, 5, 6, 7, 8, 9, 10, 11, 12, 13, 14, 15, 16, 17, 18, 19, 20, 21] []
theorem s5_76 (h : wS fs out s.h.nx o5_76 s.t ⟨s.h.o, s.h.nx + 22⟩ (Q .normal)) : wC fs out c5_76 s Q := wC_region rfl rfl h
def o5_79 : List (Nat × AOper) := (0, ⟨some 6, .mov (.k (.v (.one (.bool false)))), none⟩) ::
   []
theorem h5_79 : wS fs out b o5_79 t h R = (wV fs out (b + 0) noT h (.mov (.k (.v (.one (.bool false))))) fun x6_0 h => R ⟨(upd t 6 x6_0), h⟩) := by kernel_rfl
def c5_79 : ACode := .region (o5_79.map (·.2)) [0] []
theorem s5_79 (h : wS fs out s.h.nx o5_79 s.t ⟨s.h.o, s.h.nx + 1⟩ (Q .normal)) : wC fs out c5_79 s Q := wC_region rfl rfl h
def c5_78 : ACode := .seq c5_79 .ret
theorem s5_78 (h : wS fs out s.h.nx o5_79 s.t ⟨s.h.o, s.h.nx + 1⟩ fun s1 => wC fs out .ret s1 Q) : wC fs out c5_78 s Q := wC_seq (s5_79 h)
def c5_77 : ACode := .cond (.t 139) c5_78 .skip [6, 11, 14, 15, 19, 114, 115]
theorem s5_77 (h : onC (s.t 139) (wC fs out c5_78 s fun e s1 => Q e (keepOnly [6, 11, 14, 15, 19, 114, 115] s1)) (Q .normal (keepOnly [6, 11, 14, 15, 19, 114, 115] s))) : wC fs out c5_77 s Q := wC_condC (by first | exact h | (simp only [wC_skip, wC_exit, wC_ret]; exact h))
def c5_75 : ACode := .seq c5_76 c5_77
theorem s5_75 (h : wS fs out s.h.nx o5_76 s.t ⟨s.h.o, s.h.nx + 22⟩ fun s1 => wC fs out c5_77 s1 Q) : wC fs out c5_75 s Q := wC_seq (s5_76 h)
def c5_73 : ACode := .seq c5_74 c5_75
theorem s5_73 (h : wS fs out s.h.nx o5_74 s.t ⟨s.h.o, s.h.nx + 2⟩ fun s1 => wC fs out c5_75 s1 Q) : wC fs out c5_73 s Q := wC_seq (s5_74 h)
def c5_72 : ACode := .block 5 c5_73
theorem s5_72 (h : wC fs out c5_73 s fun e s1 => Q (if e = .exit 5 then .normal else e) s1) : wC fs out c5_72 s Q := wC_block h
def o5_80 : List (Nat × AOper) := (0, ⟨some 140, .bin .add (.t 115) (.k (.v (.one (.int .i64 1)))), none⟩) ::
   (1, ⟨some 115, .mov (.t 140), none⟩) ::
   []
theorem h5_80 : wS fs out b o5_80 t h R = (wV fs out (b + 0) noT h (.bin .add (.k (t 115)) (.k (.v (.one (.int .i64 1))))) fun x140_0 h => wV fs out (b + 1) noT h (.mov (.k x140_0)) fun x115_1 h => R ⟨(upd (upd t 140 x140_0) 115 x115_1), h⟩) := by kernel_rfl
def c5_80 : ACode := .region (o5_80.map (·.2)) [0, 1] []
theorem s5_80 (h : wS fs out s.h.nx o5_80 s.t ⟨s.h.o, s.h.nx + 2⟩ (Q .normal)) : wC fs out c5_80 s Q := wC_region rfl rfl h
def c5_71 : ACode := .seq c5_72 c5_80
theorem s5_71 (h : wC fs out c5_72 s fun e s1 => match e with | .normal => wC fs out c5_80 s1 Q | e => Q e s1) : wC fs out c5_71 s Q := wC_seq h
def c5_69 : ACode := .seq c5_70 c5_71
theorem s5_69 (h : onC (s.t 116) (wC fs out c5_71 (keepOnly [11, 14, 15, 19, 114, 115] s) Q) (Q (.exit 4) (keepOnly [11, 14, 15, 19, 114, 115] s))) : wC fs out c5_69 s Q := wC_seq (s5_70 h)
def c5_67 : ACode := .seq c5_68 c5_69
theorem s5_67 (h : wS fs out s.h.nx o5_68 s.t ⟨s.h.o, s.h.nx + 1⟩ fun s1 => wC fs out c5_69 s1 Q) : wC fs out c5_67 s Q := wC_seq (s5_68 h)
def c5_66 : ACode := .loop [11, 14, 15, 19, 114, 115] c5_67
theorem s5_66 (I : Nat → St → Prop) (n : Nat) (h0 : I n (keepOnly [11, 14, 15, 19, 114, 115] s)) (step : ∀ m s (Q' : AExit → St → Prop), I m s → (∀ m' s1, m' < m → I m' (keepOnly [11, 14, 15, 19, 114, 115] s1) → Q' .normal s1) → (∀ i s1, Q (.exit i) s1 → Q' (.exit i) s1) → (∀ s1, Q .ret s1 → Q' .ret s1) → wC fs out c5_67 s Q') : wC fs out c5_66 s Q := wC_loopQ I n h0 step
def c5_65 : ACode := .block 4 c5_66
theorem s5_65 (h : wC fs out c5_66 s fun e s1 => Q (if e = .exit 4 then .normal else e) s1) : wC fs out c5_65 s Q := wC_block h
def c5_63 : ACode := .seq c5_64 c5_65
theorem s5_63 (h : wS fs out s.h.nx o5_64 s.t ⟨s.h.o, s.h.nx + 3⟩ fun s1 => wC fs out c5_65 s1 Q) : wC fs out c5_63 s Q := wC_seq (s5_64 h)
def o5_82_3 : List (Nat × AOper) := (13, ⟨some 154, .pick (.t 142) (.t 153) (.k (.v (.one (.bool false)))), none⟩) ::
   (14, ⟨some 6, .mov (.t 154), none⟩) ::
   []
theorem h5_82_3 : wS fs out b o5_82_3 t h R = (wV fs out (b + 13) noT h (.pick (.k (t 142)) (.k (t 153)) (.k (.v (.one (.bool false))))) fun x154_0 h => wV fs out (b + 14) noT h (.mov (.k x154_0)) fun x6_1 h => R ⟨(upd (upd t 154 x154_0) 6 x6_1), h⟩) := by kernel_rfl
def o5_82_2g_1 : List (Nat × AOper) := (12, ⟨some 153, .bin .eql (.t 146) (.t 152), none⟩) ::
   []
theorem h5_82_2g_1 : wS fs out b o5_82_2g_1 t h R = (wV fs out (b + 12) noT h (.bin .eql (.k (t 146)) (.k (t 152))) fun x153_0 h => R ⟨(upd t 153 x153_0), h⟩) := by kernel_rfl
def o5_82_2g : List (Nat × AOper) := (2, ⟨some 143, .mov (.t 19), none⟩) ::
   (3, ⟨some 144, .mov (.t 15), none⟩) ::
   (4, ⟨some 145, .iadr 1 (.t 143) (.t 144), none⟩) ::
   (5, ⟨some 146, .load none (.t 145), none⟩) ::
   (6, ⟨some 147, .mov (.t 11), none⟩) ::
   (7, ⟨some 148, .mov (.t 15), none⟩) ::
   (8, ⟨some 149, .iadr 1 (.t 147) (.t 148), none⟩) ::
   (9, ⟨some 150, .load none (.t 149), none⟩) ::
   (10, ⟨some 151, .mov (.t 14), none⟩) ::
   (11, ⟨some 152, .bin .add (.t 150) (.t 151), none⟩) ::
   o5_82_2g_1
theorem h5_82_2g : wS fs out b o5_82_2g t h R = (wV fs out (b + 2) noT h (.mov (.k (t 19))) fun x143_0 h => wV fs out (b + 3) noT h (.mov (.k (t 15))) fun x144_1 h => wV fs out (b + 4) noT h (.iadr 1 (.k x143_0) (.k x144_1)) fun x145_2 h => wV fs out (b + 5) noT h (.load none (.k x145_2)) fun x146_3 h => wV fs out (b + 6) noT h (.mov (.k (t 11))) fun x147_4 h => wV fs out (b + 7) noT h (.mov (.k (t 15))) fun x148_5 h => wV fs out (b + 8) noT h (.iadr 1 (.k x147_4) (.k x148_5)) fun x149_6 h => wV fs out (b + 9) noT h (.load none (.k x149_6)) fun x150_7 h => wV fs out (b + 10) noT h (.mov (.k (t 14))) fun x151_8 h => wV fs out (b + 11) noT h (.bin .add (.k x150_7) (.k x151_8)) fun x152_9 h => wS fs out b o5_82_2g_1 (upd (upd (upd (upd (upd (upd (upd (upd (upd (upd t 143 x143_0) 144 x144_1) 145 x145_2) 146 x146_3) 147 x147_4) 148 x148_5) 149 x149_6) 150 x150_7) 151 x151_8) 152 x152_9) h R) := by kernel_rfl
def o5_82_2 : List (Nat × AOper) := grp 142 true o5_82_2g o5_82_3
theorem w5_82_2 : wS fs out b o5_82_2 t h R = onG (t 142) true (wS fs out b o5_82_2g (upd t 142 (.v (.one (.bool true)))) h fun s => wS fs out b o5_82_3 s.t s.h R) (wS fs out b o5_82_3 (upd (upd (upd (upd (upd (upd (upd (upd (upd (upd (upd (upd t 142 (.v (.one (.bool false)))) 143 (.tup [])) 144 (.tup [])) 145 (.tup [])) 146 (.tup [])) 147 (.tup [])) 148 (.tup [])) 149 (.tup [])) 150 (.tup [])) 151 (.tup [])) 152 (.tup [])) 153 (.tup [])) h R) (wS fs out b o5_82_3 (upd (upd (upd (upd (upd (upd (upd (upd (upd (upd (upd t 143 (.tup [])) 144 (.tup [])) 145 (.tup [])) 146 (.tup [])) 147 (.tup [])) 148 (.tup [])) 149 (.tup [])) 150 (.tup [])) 151 (.tup [])) 152 (.tup [])) 153 (.tup [])) h R) := wS_grpE rfl
def o5_82_1 : List (Nat × AOper) := (1, ⟨some 142, .mov (.t 141), none⟩) ::
   o5_82_2
theorem h5_82_1 : wS fs out b o5_82_1 t h R = (wV fs out (b + 1) noT h (.mov (.k (t 141))) fun x142_0 h => wS fs out b o5_82_2 (upd t 142 x142_0) h R) := by kernel_rfl
def o5_82 : List (Nat × AOper) := (0, ⟨some 141, .call 14 [], none⟩) ::
   o5_82_1
theorem h5_82 : wS fs out b o5_82 t h R = (wV fs out (b + 0) noT h (.call 14 []) fun x141_0 h => wS fs out b o5_82_1 (upd t 141 x141_0) h R) := by kernel_rfl
def c5_82 : ACode := .region (o5_82.map (·.2)) [0, 1, 2, 3, 4, 5, 6, 7, 8, 9, 10, 11, 12, 13, 14] []
theorem s5_82 (h : wS fs out s.h.nx o5_82 s.t ⟨s.h.o, s.h.nx + 15⟩ (Q .normal)) : wC fs out c5_82 s Q := wC_region rfl rfl h
def c5_81 : ACode := .seq c5_82 .ret
theorem s5_81 (h : wS fs out s.h.nx o5_82 s.t ⟨s.h.o, s.h.nx + 15⟩ fun s1 => wC fs out .ret s1 Q) : wC fs out c5_81 s Q := wC_seq (s5_82 h)
def c5_62 : ACode := .seq c5_63 c5_81
theorem s5_62 (h : wC fs out c5_63 s fun e s1 => match e with | .normal => wC fs out c5_81 s1 Q | e => Q e s1) : wC fs out c5_62 s Q := wC_seq h
def c5_56 : ACode := .seq c5_57 c5_62
theorem s5_56 (h : wC fs out c5_57 s fun e s1 => match e with | .normal => wC fs out c5_62 s1 Q | e => Q e s1) : wC fs out c5_56 s Q := wC_seq h
def c5_54 : ACode := .seq c5_55 c5_56
theorem s5_54 (h : wS fs out s.h.nx o5_55 s.t ⟨s.h.o, s.h.nx + 11⟩ fun s1 => wC fs out c5_56 s1 Q) : wC fs out c5_54 s Q := wC_seq (s5_55 h)
def c5_49 : ACode := .seq c5_50 c5_54
theorem s5_49 (h : wC fs out c5_50 s fun e s1 => match e with | .normal => wC fs out c5_54 s1 Q | e => Q e s1) : wC fs out c5_49 s Q := wC_seq h
def c5_29 : ACode := .seq c5_30 c5_49
theorem s5_29 (h : wC fs out c5_30 s fun e s1 => match e with | .normal => wC fs out c5_49 s1 Q | e => Q e s1) : wC fs out c5_29 s Q := wC_seq h
def c5_27 : ACode := .seq c5_28 c5_29
theorem s5_27 (h : wS fs out s.h.nx o5_28 s.t ⟨s.h.o, s.h.nx + 1⟩ fun s1 => wC fs out c5_29 s1 Q) : wC fs out c5_27 s Q := wC_seq (s5_28 h)
def c5_25 : ACode := .seq c5_26 c5_27
theorem s5_25 (h : wS fs out s.h.nx o5_26 s.t ⟨s.h.o, s.h.nx + 3⟩ fun s1 => wC fs out c5_27 s1 Q) : wC fs out c5_25 s Q := wC_seq (s5_26 h)
def c5_23 : ACode := .seq c5_24 c5_25
theorem s5_23 (h : wS fs out s.h.nx o5_24 s.t ⟨s.h.o, s.h.nx + 5⟩ fun s1 => wC fs out c5_25 s1 Q) : wC fs out c5_23 s Q := wC_seq (s5_24 h)
def c5_21 : ACode := .seq c5_22 c5_23
theorem s5_21 (h : wS fs out s.h.nx o5_22 s.t ⟨s.h.o, s.h.nx + 3⟩ fun s1 => wC fs out c5_23 s1 Q) : wC fs out c5_21 s Q := wC_seq (s5_22 h)
def c5_19 : ACode := .seq c5_20 c5_21
theorem s5_19 (h : wS fs out s.h.nx o5_20 s.t ⟨s.h.o, s.h.nx + 11⟩ fun s1 => wC fs out c5_21 s1 Q) : wC fs out c5_19 s Q := wC_seq (s5_20 h)
def c5_4 : ACode := .seq c5_5 c5_19
theorem s5_4 (h : wC fs out c5_5 s fun e s1 => match e with | .normal => wC fs out c5_19 s1 Q | e => Q e s1) : wC fs out c5_4 s Q := wC_seq h
def c5_2 : ACode := .seq c5_3 c5_4
theorem s5_2 (h : wS fs out s.h.nx o5_3 s.t ⟨s.h.o, s.h.nx + 9⟩ fun s1 => wC fs out c5_4 s1 Q) : wC fs out c5_2 s Q := wC_seq (s5_3 h)
def c5_0 : ACode := .seq c5_1 c5_2
theorem s5_0 (h : wS fs out s.h.nx o5_1 s.t ⟨s.h.o, s.h.nx + 1⟩ fun s1 => wC fs out c5_2 s1 Q) : wC fs out c5_0 s Q := wC_seq (s5_1 h)
def a5 : AFunc := ⟨3, [6], none, c5_0⟩
theorem t5 : tell Try.prog Try.f5 [([1, 2, 7, 8, 9, 30, 31], [], []), ([1, 2, 7, 8, 9, 30, 31], [], []), ([7, 8, 11, 13, 14, 15, 16, 17, 56, 57], [], []), ([7, 8, 11, 13, 14, 15, 16, 17, 56, 57], [], []), ([7, 8, 11, 13, 14, 15, 16, 17, 56, 57], [], []), ([7, 8, 11, 13, 14, 15, 16], [], []), ([6, 7, 11, 14, 15, 19], [], []), ([11, 14, 15, 19, 114, 115], [], []), ([11, 14, 15, 19, 114, 115], [], []), ([0, 1, 2, 3, 4, 5, 6, 7, 8, 9, 10, 11, 12, 13, 14, 15, 16, 17, 18, 19, 20, 21], [], [0, 0, 3, 7, 0, 0, 48, 112, 255, 511, 1023, 1023, 4095, 8191, 1023, 1023, 50175, 115711, 1023, 508927, 1048575, 2097151]), ([6, 11, 14, 15, 19, 114, 115], [], []), ([0, 1, 2, 3, 4, 5, 6, 7, 8, 9, 10, 11, 12, 13, 14], [], [0, 1, 3, 3, 15, 31, 3, 3, 195, 451, 3, 1987, 4095, 8191, 16383])] = some a5 := by kernel_rfl
theorem ok5 : FuncOk Try.prog 5 a5 := tell_ok Try.func5 t5

end
def fl5 (f : Nat) : Option AFunc := if f = 5 then some a5 else fs f
theorem fl5_ok : ∀ f fn, fl5 f = some fn → FuncOk Try.prog f fn := by
  intro f fn h
  unfold fl5 at h
  split at h
  · rename_i hf; subst hf; cases h; exact ok5
  · exact fs_ok f fn h
theorem fs5 : fl5 5 = some a5 := by simp [fl5]
theorem lift5 {f : Nat} {args : List T} {h : AH} {Q : T → AH → Prop} (hw : wF fs out f args h Q) : wF fl5 out f args h Q := by
  refine wF_ext (fun f fn hf => ?_) (fun f hf hf' args h => ?_) hw
  · unfold fl5; rw [if_neg (fun e => by subst e; cases hf)]; exact hf
  · unfold fl5 at hf'; split at hf'
    · rename_i e; subst e; cases args <;> rfl
    · exact absurd hf hf'
end Go.Proofs.Ythoicdnlcnppgaa.Fn
