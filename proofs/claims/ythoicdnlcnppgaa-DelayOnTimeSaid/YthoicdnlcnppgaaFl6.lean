/- A law's function, as the abstract machine's, and that it is. Conditions: none. -/
import Derived.Test.YthoicdnlcnppgaaFn
set_option linter.unusedVariables false
set_option linter.unusedSimpArgs false
namespace Go.Proofs.Ythoicdnlcnppgaa.Fn
open Go Go.Am
set_option maxRecDepth 100000
section
variable {fs : Nat → Option AFunc} {out : Rec} {s : St} {Q : AExit → St → Prop} {b : Nat} {t : Nat → T} {h : AH} {R : St → Prop}
/-- railplan/railplanlaw34.DelayOnTime -/
def o6_1 : List (Nat × AOper) := (0, ⟨some 2, .mov (.k (.v (.one (.bool false)))), none⟩) ::
   []
theorem h6_1 : wS fs out b o6_1 t h R = (wV fs out (b + 0) noT h (.mov (.k (.v (.one (.bool false))))) fun x2_0 h => R ⟨(upd t 2 x2_0), h⟩) := by kernel_rfl
def c6_1 : ACode := .region (o6_1.map (·.2)) [0] []
theorem s6_1 (h : wS fs out s.h.nx o6_1 s.t ⟨s.h.o, s.h.nx + 1⟩ (Q .normal)) : wC fs out c6_1 s Q := wC_region rfl rfl h
def o6_3_1 : List (Nat × AOper) := (2, ⟨some 15, .mov (.t 17), none⟩) ::
   (3, ⟨some 18, .ext 0 (.t 15), none⟩) ::
   (4, ⟨some 19, .ext 1 (.t 15), none⟩) ::
   (5, ⟨some 20, .ext 2 (.t 15), none⟩) ::
   (6, ⟨some 3, .mov (.t 18), none⟩) ::
   (7, ⟨some 4, .mov (.t 19), none⟩) ::
   (8, ⟨some 5, .mov (.t 20), none⟩) ::
   []
theorem h6_3_1 : wS fs out b o6_3_1 t h R = (wV fs out (b + 2) noT h (.mov (.k (t 17))) fun x15_0 h => wV fs out (b + 3) noT h (.ext 0 (.k x15_0)) fun x18_1 h => wV fs out (b + 4) noT h (.ext 1 (.k x15_0)) fun x19_2 h => wV fs out (b + 5) noT h (.ext 2 (.k x15_0)) fun x20_3 h => wV fs out (b + 6) noT h (.mov (.k x18_1)) fun x3_4 h => wV fs out (b + 7) noT h (.mov (.k x19_2)) fun x4_5 h => wV fs out (b + 8) noT h (.mov (.k x20_3)) fun x5_6 h => R ⟨(upd (upd (upd (upd (upd (upd (upd t 15 x15_0) 18 x18_1) 19 x19_2) 20 x20_3) 3 x3_4) 4 x4_5) 5 x5_6), h⟩) := by kernel_rfl
def o6_3 : List (Nat × AOper) := (0, ⟨some 16, .mov (.t 0), none⟩) ::
   (1, ⟨some 17, .call 12 [(.t 16)], none⟩) ::
   o6_3_1
theorem h6_3 : wS fs out b o6_3 t h R = (wV fs out (b + 0) noT h (.mov (.k (t 0))) fun x16_0 h => wV fs out (b + 1) noT h (.call 12 [(.k x16_0)]) fun x17_1 h => wS fs out b o6_3_1 (upd (upd t 16 x16_0) 17 x17_1) h R) := by kernel_rfl
def c6_3 : ACode := .region (o6_3.map (·.2)) [0, 1, 2, 3, 4, 5, 6, 7, 8] []
theorem s6_3 (h : wS fs out s.h.nx o6_3 s.t ⟨s.h.o, s.h.nx + 9⟩ (Q .normal)) : wC fs out c6_3 s Q := wC_region rfl rfl h
def o6_6 : List (Nat × AOper) := (0, ⟨some 21, .mov (.t 3), none⟩) ::
   (1, ⟨some 22, .len (.t 21), none⟩) ::
   (2, ⟨some 23, .mov (.k (.v (.one (.int .i64 0)))), none⟩) ::
   []
theorem h6_6 : wS fs out b o6_6 t h R = (wV fs out (b + 0) noT h (.mov (.k (t 3))) fun x21_0 h => wV fs out (b + 1) noT h (.len (.k x21_0)) fun x22_1 h => wV fs out (b + 2) noT h (.mov (.k (.v (.one (.int .i64 0))))) fun x23_2 h => R ⟨(upd (upd (upd t 21 x21_0) 22 x22_1) 23 x23_2), h⟩) := by kernel_rfl
def c6_6 : ACode := .region (o6_6.map (·.2)) [0, 1, 2] []
theorem s6_6 (h : wS fs out s.h.nx o6_6 s.t ⟨s.h.o, s.h.nx + 3⟩ (Q .normal)) : wC fs out c6_6 s Q := wC_region rfl rfl h
def o6_10 : List (Nat × AOper) := (0, ⟨some 24, .bin .lss (.t 23) (.t 22), none⟩) ::
   []
theorem h6_10 : wS fs out b o6_10 t h R = (wV fs out (b + 0) noT h (.bin .lss (.k (t 23)) (.k (t 22))) fun x24_0 h => R ⟨(upd t 24 x24_0), h⟩) := by kernel_rfl
def c6_10 : ACode := .region (o6_10.map (·.2)) [0] []
theorem s6_10 (h : wS fs out s.h.nx o6_10 s.t ⟨s.h.o, s.h.nx + 1⟩ (Q .normal)) : wC fs out c6_10 s Q := wC_region rfl rfl h
def c6_12 : ACode := .cond (.t 24) .skip (.exit 0) [3, 4, 22, 23]
theorem s6_12 (h : onC (s.t 24) (Q .normal (keepOnly [3, 4, 22, 23] s)) (Q (.exit 0) (keepOnly [3, 4, 22, 23] s))) : wC fs out c6_12 s Q := wC_condC (by first | exact h | (simp only [wC_skip, wC_exit, wC_ret]; exact h))
def o6_16 : List (Nat × AOper) := (0, ⟨some 25, .mov (.t 23), none⟩) ::
   (1, ⟨some 6, .mov (.t 25), none⟩) ::
   []
theorem h6_16 : wS fs out b o6_16 t h R = (wV fs out (b + 0) noT h (.mov (.k (t 23))) fun x25_0 h => wV fs out (b + 1) noT h (.mov (.k x25_0)) fun x6_1 h => R ⟨(upd (upd t 25 x25_0) 6 x6_1), h⟩) := by kernel_rfl
def c6_16 : ACode := .region (o6_16.map (·.2)) [0, 1] []
theorem s6_16 (h : wS fs out s.h.nx o6_16 s.t ⟨s.h.o, s.h.nx + 2⟩ (Q .normal)) : wC fs out c6_16 s Q := wC_region rfl rfl h
def o6_18 : List (Nat × AOper) := (0, ⟨some 26, .mov (.t 4), none⟩) ::
   (1, ⟨some 27, .len (.t 26), none⟩) ::
   (2, ⟨some 28, .mov (.k (.v (.one (.int .i64 0)))), none⟩) ::
   []
theorem h6_18 : wS fs out b o6_18 t h R = (wV fs out (b + 0) noT h (.mov (.k (t 4))) fun x26_0 h => wV fs out (b + 1) noT h (.len (.k x26_0)) fun x27_1 h => wV fs out (b + 2) noT h (.mov (.k (.v (.one (.int .i64 0))))) fun x28_2 h => R ⟨(upd (upd (upd t 26 x26_0) 27 x27_1) 28 x28_2), h⟩) := by kernel_rfl
def c6_18 : ACode := .region (o6_18.map (·.2)) [0, 1, 2] []
theorem s6_18 (h : wS fs out s.h.nx o6_18 s.t ⟨s.h.o, s.h.nx + 3⟩ (Q .normal)) : wC fs out c6_18 s Q := wC_region rfl rfl h
def o6_22 : List (Nat × AOper) := (0, ⟨some 29, .bin .lss (.t 28) (.t 27), none⟩) ::
   []
theorem h6_22 : wS fs out b o6_22 t h R = (wV fs out (b + 0) noT h (.bin .lss (.k (t 28)) (.k (t 27))) fun x29_0 h => R ⟨(upd t 29 x29_0), h⟩) := by kernel_rfl
def c6_22 : ACode := .region (o6_22.map (·.2)) [0] []
theorem s6_22 (h : wS fs out s.h.nx o6_22 s.t ⟨s.h.o, s.h.nx + 1⟩ (Q .normal)) : wC fs out c6_22 s Q := wC_region rfl rfl h
def c6_24 : ACode := .cond (.t 29) .skip (.exit 2) [3, 4, 6, 22, 23, 26, 27, 28]
theorem s6_24 (h : onC (s.t 29) (Q .normal (keepOnly [3, 4, 6, 22, 23, 26, 27, 28] s)) (Q (.exit 2) (keepOnly [3, 4, 6, 22, 23, 26, 27, 28] s))) : wC fs out c6_24 s Q := wC_condC (by first | exact h | (simp only [wC_skip, wC_exit, wC_ret]; exact h))
def o6_28 : List (Nat × AOper) := (0, ⟨some 30, .iadr 4 (.t 26) (.t 28), none⟩) ::
   (1, ⟨some 31, .load (some 4) (.t 30), none⟩) ::
   (2, ⟨some 8, .new 35 [(.int .i64 0), (.int .i64 0), (.int .i64 0), (.int .i64 0)], none⟩) ::
   (3, ⟨none, .store 4 (.t 8) (.t 31), none⟩) ::
   []
theorem h6_28 : wS fs out b o6_28 t h R = (wV fs out (b + 0) noT h (.iadr 4 (.k (t 26)) (.k (t 28))) fun x30_0 h => wV fs out (b + 1) noT h (.load (some 4) (.k x30_0)) fun x31_1 h => wV fs out (b + 2) noT h (.new 35 [(.int .i64 0), (.int .i64 0), (.int .i64 0), (.int .i64 0)]) fun x8_2 h => wV fs out (b + 3) noT h (.store 4 (.k x8_2) (.k x31_1)) fun _ h => R ⟨(upd (upd (upd t 30 x30_0) 31 x31_1) 8 x8_2), h⟩) := by kernel_rfl
def c6_28 : ACode := .region (o6_28.map (·.2)) [0, 1, 2, 3] []
theorem s6_28 (h : wS fs out s.h.nx o6_28 s.t ⟨s.h.o, s.h.nx + 4⟩ (Q .normal)) : wC fs out c6_28 s Q := wC_region rfl rfl h
def o6_30 : List (Nat × AOper) := (0, ⟨some 32, .fadr 1 (.t 8), none⟩) ::
   (1, ⟨some 33, .load none (.t 32), none⟩) ::
   (2, ⟨some 34, .mov (.t 6), none⟩) ::
   (3, ⟨some 35, .bin .eql (.t 33) (.t 34), none⟩) ::
   []
theorem h6_30 : wS fs out b o6_30 t h R = (wV fs out (b + 0) noT h (.fadr 1 (.k (t 8))) fun x32_0 h => wV fs out (b + 1) noT h (.load none (.k x32_0)) fun x33_1 h => wV fs out (b + 2) noT h (.mov (.k (t 6))) fun x34_2 h => wV fs out (b + 3) noT h (.bin .eql (.k x33_1) (.k x34_2)) fun x35_3 h => R ⟨(upd (upd (upd (upd t 32 x32_0) 33 x33_1) 34 x34_2) 35 x35_3), h⟩) := by kernel_rfl
def c6_30 : ACode := .region (o6_30.map (·.2)) [0, 1, 2, 3] []
theorem s6_30 (h : wS fs out s.h.nx o6_30 s.t ⟨s.h.o, s.h.nx + 4⟩ (Q .normal)) : wC fs out c6_30 s Q := wC_region rfl rfl h
def o6_32_1 : List (Nat × AOper) := (10, ⟨some 46, .iadr 2 (.t 43) (.t 45), none⟩) ::
   (11, ⟨some 47, .fadr 0 (.t 46), none⟩) ::
   (12, ⟨some 48, .load none (.t 47), none⟩) ::
   (13, ⟨some 49, .fadr 2 (.t 8), none⟩) ::
   (14, ⟨some 50, .load none (.t 49), none⟩) ::
   (15, ⟨some 51, .bin .add (.t 48) (.t 50), none⟩) ::
   (16, ⟨some 52, .max2 (.t 42) (.t 51), none⟩) ::
   (17, ⟨some 53, .iadr 2 (.t 36) (.t 37), none⟩) ::
   (18, ⟨some 54, .fadr 0 (.t 53), none⟩) ::
   (19, ⟨none, .store 1 (.t 54) (.t 52), none⟩) ::
   []
theorem h6_32_1 : wS fs out b o6_32_1 t h R = (wV fs out (b + 10) noT h (.iadr 2 (.k (t 43)) (.k (t 45))) fun x46_0 h => wV fs out (b + 11) noT h (.fadr 0 (.k x46_0)) fun x47_1 h => wV fs out (b + 12) noT h (.load none (.k x47_1)) fun x48_2 h => wV fs out (b + 13) noT h (.fadr 2 (.k (t 8))) fun x49_3 h => wV fs out (b + 14) noT h (.load none (.k x49_3)) fun x50_4 h => wV fs out (b + 15) noT h (.bin .add (.k x48_2) (.k x50_4)) fun x51_5 h => wV fs out (b + 16) noT h (.max2 (.k (t 42)) (.k x51_5)) fun x52_6 h => wV fs out (b + 17) noT h (.iadr 2 (.k (t 36)) (.k (t 37))) fun x53_7 h => wV fs out (b + 18) noT h (.fadr 0 (.k x53_7)) fun x54_8 h => wV fs out (b + 19) noT h (.store 1 (.k x54_8) (.k x52_6)) fun _ h => R ⟨(upd (upd (upd (upd (upd (upd (upd (upd (upd t 46 x46_0) 47 x47_1) 48 x48_2) 49 x49_3) 50 x50_4) 51 x51_5) 52 x52_6) 53 x53_7) 54 x54_8), h⟩) := by kernel_rfl
def o6_32 : List (Nat × AOper) := (0, ⟨some 36, .mov (.t 3), none⟩) ::
   (1, ⟨some 37, .mov (.t 6), none⟩) ::
   (2, ⟨some 38, .mov (.t 3), none⟩) ::
   (3, ⟨some 39, .mov (.t 6), none⟩) ::
   (4, ⟨some 40, .iadr 2 (.t 38) (.t 39), none⟩) ::
   (5, ⟨some 41, .fadr 0 (.t 40), none⟩) ::
   (6, ⟨some 42, .load none (.t 41), none⟩) ::
   (7, ⟨some 43, .mov (.t 3), none⟩) ::
   (8, ⟨some 44, .fadr 0 (.t 8), none⟩) ::
   (9, ⟨some 45, .load none (.t 44), none⟩) ::
   o6_32_1
theorem h6_32 : wS fs out b o6_32 t h R = (wV fs out (b + 0) noT h (.mov (.k (t 3))) fun x36_0 h => wV fs out (b + 1) noT h (.mov (.k (t 6))) fun x37_1 h => wV fs out (b + 2) noT h (.mov (.k (t 3))) fun x38_2 h => wV fs out (b + 3) noT h (.mov (.k (t 6))) fun x39_3 h => wV fs out (b + 4) noT h (.iadr 2 (.k x38_2) (.k x39_3)) fun x40_4 h => wV fs out (b + 5) noT h (.fadr 0 (.k x40_4)) fun x41_5 h => wV fs out (b + 6) noT h (.load none (.k x41_5)) fun x42_6 h => wV fs out (b + 7) noT h (.mov (.k (t 3))) fun x43_7 h => wV fs out (b + 8) noT h (.fadr 0 (.k (t 8))) fun x44_8 h => wV fs out (b + 9) noT h (.load none (.k x44_8)) fun x45_9 h => wS fs out b o6_32_1 (upd (upd (upd (upd (upd (upd (upd (upd (upd (upd t 36 x36_0) 37 x37_1) 38 x38_2) 39 x39_3) 40 x40_4) 41 x41_5) 42 x42_6) 43 x43_7) 44 x44_8) 45 x45_9) h R) := by kernel_rfl
def c6_32 : ACode := .region (o6_32.map (·.2)) [0, 1, 2, 3, 4, 5, 6, 7, 8, 9, 10, 11, 12, 13, 14, 15, 16, 17, 18, 19] []
theorem s6_32 (h : wS fs out s.h.nx o6_32 s.t ⟨s.h.o, s.h.nx + 20⟩ (Q .normal)) : wC fs out c6_32 s Q := wC_region rfl rfl h
def c6_31 : ACode := .cond (.t 35) c6_32 .skip [3, 4, 6, 22, 23, 26, 27, 28]
theorem s6_31 (h : onC (s.t 35) (wC fs out c6_32 s fun e s1 => Q e (keepOnly [3, 4, 6, 22, 23, 26, 27, 28] s1)) (Q .normal (keepOnly [3, 4, 6, 22, 23, 26, 27, 28] s))) : wC fs out c6_31 s Q := wC_condC (by first | exact h | (simp only [wC_skip, wC_exit, wC_ret]; exact h))
def c6_29 : ACode := .seq c6_30 c6_31
theorem s6_29 (h : wS fs out s.h.nx o6_30 s.t ⟨s.h.o, s.h.nx + 4⟩ fun s1 => wC fs out c6_31 s1 Q) : wC fs out c6_29 s Q := wC_seq (s6_30 h)
def c6_27 : ACode := .seq c6_28 c6_29
theorem s6_27 (h : wS fs out s.h.nx o6_28 s.t ⟨s.h.o, s.h.nx + 4⟩ fun s1 => wC fs out c6_29 s1 Q) : wC fs out c6_27 s Q := wC_seq (s6_28 h)
def c6_26 : ACode := .block 3 c6_27
theorem s6_26 (h : wC fs out c6_27 s fun e s1 => Q (if e = .exit 3 then .normal else e) s1) : wC fs out c6_26 s Q := wC_block h
def o6_33 : List (Nat × AOper) := (0, ⟨some 55, .bin .add (.t 28) (.k (.v (.one (.int .i64 1)))), none⟩) ::
   (1, ⟨some 28, .mov (.t 55), none⟩) ::
   []
theorem h6_33 : wS fs out b o6_33 t h R = (wV fs out (b + 0) noT h (.bin .add (.k (t 28)) (.k (.v (.one (.int .i64 1))))) fun x55_0 h => wV fs out (b + 1) noT h (.mov (.k x55_0)) fun x28_1 h => R ⟨(upd (upd t 55 x55_0) 28 x28_1), h⟩) := by kernel_rfl
def c6_33 : ACode := .region (o6_33.map (·.2)) [0, 1] []
theorem s6_33 (h : wS fs out s.h.nx o6_33 s.t ⟨s.h.o, s.h.nx + 2⟩ (Q .normal)) : wC fs out c6_33 s Q := wC_region rfl rfl h
def c6_25 : ACode := .seq c6_26 c6_33
theorem s6_25 (h : wC fs out c6_26 s fun e s1 => match e with | .normal => wC fs out c6_33 s1 Q | e => Q e s1) : wC fs out c6_25 s Q := wC_seq h
def c6_23 : ACode := .seq c6_24 c6_25
theorem s6_23 (h : onC (s.t 29) (wC fs out c6_25 (keepOnly [3, 4, 6, 22, 23, 26, 27, 28] s) Q) (Q (.exit 2) (keepOnly [3, 4, 6, 22, 23, 26, 27, 28] s))) : wC fs out c6_23 s Q := wC_seq (s6_24 h)
def c6_21 : ACode := .seq c6_22 c6_23
theorem s6_21 (h : wS fs out s.h.nx o6_22 s.t ⟨s.h.o, s.h.nx + 1⟩ fun s1 => wC fs out c6_23 s1 Q) : wC fs out c6_21 s Q := wC_seq (s6_22 h)
def c6_20 : ACode := .loop [3, 4, 6, 22, 23, 26, 27, 28] c6_21
theorem s6_20 (I : Nat → St → Prop) (n : Nat) (h0 : I n (keepOnly [3, 4, 6, 22, 23, 26, 27, 28] s)) (step : ∀ m s (Q' : AExit → St → Prop), I m s → (∀ m' s1, m' < m → I m' (keepOnly [3, 4, 6, 22, 23, 26, 27, 28] s1) → Q' .normal s1) → (∀ i s1, Q (.exit i) s1 → Q' (.exit i) s1) → (∀ s1, Q .ret s1 → Q' .ret s1) → wC fs out c6_21 s Q') : wC fs out c6_20 s Q := wC_loopQ I n h0 step
def c6_19 : ACode := .block 2 c6_20
theorem s6_19 (h : wC fs out c6_20 s fun e s1 => Q (if e = .exit 2 then .normal else e) s1) : wC fs out c6_19 s Q := wC_block h
def c6_17 : ACode := .seq c6_18 c6_19
theorem s6_17 (h : wS fs out s.h.nx o6_18 s.t ⟨s.h.o, s.h.nx + 3⟩ fun s1 => wC fs out c6_19 s1 Q) : wC fs out c6_17 s Q := wC_seq (s6_18 h)
def c6_15 : ACode := .seq c6_16 c6_17
theorem s6_15 (h : wS fs out s.h.nx o6_16 s.t ⟨s.h.o, s.h.nx + 2⟩ fun s1 => wC fs out c6_17 s1 Q) : wC fs out c6_15 s Q := wC_seq (s6_16 h)
def c6_14 : ACode := .block 1 c6_15
theorem s6_14 (h : wC fs out c6_15 s fun e s1 => Q (if e = .exit 1 then .normal else e) s1) : wC fs out c6_14 s Q := wC_block h
def o6_34 : List (Nat × AOper) := (0, ⟨some 56, .bin .add (.t 23) (.k (.v (.one (.int .i64 1)))), none⟩) ::
   (1, ⟨some 23, .mov (.t 56), none⟩) ::
   []
theorem h6_34 : wS fs out b o6_34 t h R = (wV fs out (b + 0) noT h (.bin .add (.k (t 23)) (.k (.v (.one (.int .i64 1))))) fun x56_0 h => wV fs out (b + 1) noT h (.mov (.k x56_0)) fun x23_1 h => R ⟨(upd (upd t 56 x56_0) 23 x23_1), h⟩) := by kernel_rfl
def c6_34 : ACode := .region (o6_34.map (·.2)) [0, 1] []
theorem s6_34 (h : wS fs out s.h.nx o6_34 s.t ⟨s.h.o, s.h.nx + 2⟩ (Q .normal)) : wC fs out c6_34 s Q := wC_region rfl rfl h
def c6_13 : ACode := .seq c6_14 c6_34
theorem s6_13 (h : wC fs out c6_14 s fun e s1 => match e with | .normal => wC fs out c6_34 s1 Q | e => Q e s1) : wC fs out c6_13 s Q := wC_seq h
def c6_11 : ACode := .seq c6_12 c6_13
theorem s6_11 (h : onC (s.t 24) (wC fs out c6_13 (keepOnly [3, 4, 22, 23] s) Q) (Q (.exit 0) (keepOnly [3, 4, 22, 23] s))) : wC fs out c6_11 s Q := wC_seq (s6_12 h)
def c6_9 : ACode := .seq c6_10 c6_11
theorem s6_9 (h : wS fs out s.h.nx o6_10 s.t ⟨s.h.o, s.h.nx + 1⟩ fun s1 => wC fs out c6_11 s1 Q) : wC fs out c6_9 s Q := wC_seq (s6_10 h)
def c6_8 : ACode := .loop [3, 4, 22, 23] c6_9
theorem s6_8 (I : Nat → St → Prop) (n : Nat) (h0 : I n (keepOnly [3, 4, 22, 23] s)) (step : ∀ m s (Q' : AExit → St → Prop), I m s → (∀ m' s1, m' < m → I m' (keepOnly [3, 4, 22, 23] s1) → Q' .normal s1) → (∀ i s1, Q (.exit i) s1 → Q' (.exit i) s1) → (∀ s1, Q .ret s1 → Q' .ret s1) → wC fs out c6_9 s Q') : wC fs out c6_8 s Q := wC_loopQ I n h0 step
def c6_7 : ACode := .block 0 c6_8
theorem s6_7 (h : wC fs out c6_8 s fun e s1 => Q (if e = .exit 0 then .normal else e) s1) : wC fs out c6_7 s Q := wC_block h
def c6_5 : ACode := .seq c6_6 c6_7
theorem s6_5 (h : wS fs out s.h.nx o6_6 s.t ⟨s.h.o, s.h.nx + 3⟩ fun s1 => wC fs out c6_7 s1 Q) : wC fs out c6_5 s Q := wC_seq (s6_6 h)
def o6_36_1 : List (Nat × AOper) := (3, ⟨some 57, .mov (.t 60), none⟩) ::
   (4, ⟨some 61, .ext 0 (.t 57), none⟩) ::
   (5, ⟨some 62, .ext 1 (.t 57), none⟩) ::
   (6, ⟨some 63, .ext 2 (.t 57), none⟩) ::
   (7, ⟨some 9, .mov (.t 61), none⟩) ::
   (8, ⟨some 10, .mov (.t 62), none⟩) ::
   (9, ⟨some 11, .mov (.t 63), none⟩) ::
   []
theorem h6_36_1 : wS fs out b o6_36_1 t h R = (wV fs out (b + 3) noT h (.mov (.k (t 60))) fun x57_0 h => wV fs out (b + 4) noT h (.ext 0 (.k x57_0)) fun x61_1 h => wV fs out (b + 5) noT h (.ext 1 (.k x57_0)) fun x62_2 h => wV fs out (b + 6) noT h (.ext 2 (.k x57_0)) fun x63_3 h => wV fs out (b + 7) noT h (.mov (.k x61_1)) fun x9_4 h => wV fs out (b + 8) noT h (.mov (.k x62_2)) fun x10_5 h => wV fs out (b + 9) noT h (.mov (.k x63_3)) fun x11_6 h => R ⟨(upd (upd (upd (upd (upd (upd (upd t 57 x57_0) 61 x61_1) 62 x62_2) 63 x63_3) 9 x9_4) 10 x10_5) 11 x11_6), h⟩) := by kernel_rfl
def o6_36 : List (Nat × AOper) := (0, ⟨some 58, .mov (.t 3), none⟩) ::
   (1, ⟨some 59, .mov (.t 4), none⟩) ::
   (2, ⟨some 60, .call 13 [(.t 58), (.t 59), (.k (.v (.one .nils)))], none⟩) ::
   o6_36_1
theorem h6_36 : wS fs out b o6_36 t h R = (wV fs out (b + 0) noT h (.mov (.k (t 3))) fun x58_0 h => wV fs out (b + 1) noT h (.mov (.k (t 4))) fun x59_1 h => wV fs out (b + 2) noT h (.call 13 [(.k x58_0), (.k x59_1), (.k (.v (.one .nils)))]) fun x60_2 h => wS fs out b o6_36_1 (upd (upd (upd t 58 x58_0) 59 x59_1) 60 x60_2) h R) := by kernel_rfl
def c6_36 : ACode := .region (o6_36.map (·.2)) [0, 1, 2, 3, 4, 5, 6, 7, 8, 9] []
theorem s6_36 (h : wS fs out s.h.nx o6_36 s.t ⟨s.h.o, s.h.nx + 10⟩ (Q .normal)) : wC fs out c6_36 s Q := wC_region rfl rfl h
def o6_39_4 : List (Nat × AOper) := (15, ⟨some 79, .pick (.t 73) (.k (.v (.one (.bool true)))) (.t 78), none⟩) ::
   []
theorem h6_39_4 : wS fs out b o6_39_4 t h R = (wV fs out (b + 15) noT h (.pick (.k (t 73)) (.k (.v (.one (.bool true)))) (.k (t 78))) fun x79_0 h => R ⟨(upd t 79 x79_0), h⟩) := by kernel_rfl
def o6_39_3g : List (Nat × AOper) := (10, ⟨some 74, .mov (.t 10), none⟩) ::
   (11, ⟨some 75, .len (.t 74), none⟩) ::
   (12, ⟨some 76, .mov (.t 4), none⟩) ::
   (13, ⟨some 77, .len (.t 76), none⟩) ::
   (14, ⟨some 78, .bin .neq (.t 75) (.t 77), none⟩) ::
   []
theorem h6_39_3g : wS fs out b o6_39_3g t h R = (wV fs out (b + 10) noT h (.mov (.k (t 10))) fun x74_0 h => wV fs out (b + 11) noT h (.len (.k x74_0)) fun x75_1 h => wV fs out (b + 12) noT h (.mov (.k (t 4))) fun x76_2 h => wV fs out (b + 13) noT h (.len (.k x76_2)) fun x77_3 h => wV fs out (b + 14) noT h (.bin .neq (.k x75_1) (.k x77_3)) fun x78_4 h => R ⟨(upd (upd (upd (upd (upd t 74 x74_0) 75 x75_1) 76 x76_2) 77 x77_3) 78 x78_4), h⟩) := by kernel_rfl
def o6_39_3 : List (Nat × AOper) := grp 73 false o6_39_3g o6_39_4
theorem w6_39_3 : wS fs out b o6_39_3 t h R = onG (t 73) false (wS fs out b o6_39_3g (upd t 73 (.v (.one (.bool false)))) h fun s => wS fs out b o6_39_4 s.t s.h R) (wS fs out b o6_39_4 (upd (upd (upd (upd (upd (upd t 73 (.v (.one (.bool true)))) 74 (.tup [])) 75 (.tup [])) 76 (.tup [])) 77 (.tup [])) 78 (.tup [])) h R) (wS fs out b o6_39_4 (upd (upd (upd (upd (upd t 74 (.tup [])) 75 (.tup [])) 76 (.tup [])) 77 (.tup [])) 78 (.tup [])) h R) := wS_grpE rfl
def o6_39_2 : List (Nat × AOper) := (8, ⟨some 72, .pick (.t 66) (.k (.v (.one (.bool true)))) (.t 71), none⟩) ::
   (9, ⟨some 73, .mov (.t 72), none⟩) ::
   o6_39_3
theorem h6_39_2 : wS fs out b o6_39_2 t h R = (wV fs out (b + 8) noT h (.pick (.k (t 66)) (.k (.v (.one (.bool true)))) (.k (t 71))) fun x72_0 h => wV fs out (b + 9) noT h (.mov (.k x72_0)) fun x73_1 h => wS fs out b o6_39_3 (upd (upd t 72 x72_0) 73 x73_1) h R) := by kernel_rfl
def o6_39_1g : List (Nat × AOper) := (3, ⟨some 67, .mov (.t 9), none⟩) ::
   (4, ⟨some 68, .len (.t 67), none⟩) ::
   (5, ⟨some 69, .mov (.t 3), none⟩) ::
   (6, ⟨some 70, .len (.t 69), none⟩) ::
   (7, ⟨some 71, .bin .neq (.t 68) (.t 70), none⟩) ::
   []
theorem h6_39_1g : wS fs out b o6_39_1g t h R = (wV fs out (b + 3) noT h (.mov (.k (t 9))) fun x67_0 h => wV fs out (b + 4) noT h (.len (.k x67_0)) fun x68_1 h => wV fs out (b + 5) noT h (.mov (.k (t 3))) fun x69_2 h => wV fs out (b + 6) noT h (.len (.k x69_2)) fun x70_3 h => wV fs out (b + 7) noT h (.bin .neq (.k x68_1) (.k x70_3)) fun x71_4 h => R ⟨(upd (upd (upd (upd (upd t 67 x67_0) 68 x68_1) 69 x69_2) 70 x70_3) 71 x71_4), h⟩) := by kernel_rfl
def o6_39_1 : List (Nat × AOper) := grp 66 false o6_39_1g o6_39_2
theorem w6_39_1 : wS fs out b o6_39_1 t h R = onG (t 66) false (wS fs out b o6_39_1g (upd t 66 (.v (.one (.bool false)))) h fun s => wS fs out b o6_39_2 s.t s.h R) (wS fs out b o6_39_2 (upd (upd (upd (upd (upd (upd t 66 (.v (.one (.bool true)))) 67 (.tup [])) 68 (.tup [])) 69 (.tup [])) 70 (.tup [])) 71 (.tup [])) h R) (wS fs out b o6_39_2 (upd (upd (upd (upd (upd t 67 (.tup [])) 68 (.tup [])) 69 (.tup [])) 70 (.tup [])) 71 (.tup [])) h R) := wS_grpE rfl
def o6_39 : List (Nat × AOper) := (0, ⟨some 64, .mov (.t 11), none⟩) ::
   (1, ⟨some 65, .bin .neq (.t 64) (.k (.v (.one (.int .i64 0)))), none⟩) ::
   (2, ⟨some 66, .mov (.t 65), none⟩) ::
   o6_39_1
theorem h6_39 : wS fs out b o6_39 t h R = (wV fs out (b + 0) noT h (.mov (.k (t 11))) fun x64_0 h => wV fs out (b + 1) noT h (.bin .neq (.k x64_0) (.k (.v (.one (.int .i64 0))))) fun x65_1 h => wV fs out (b + 2) noT h (.mov (.k x65_1)) fun x66_2 h => wS fs out b o6_39_1 (upd (upd (upd t 64 x64_0) 65 x65_1) 66 x66_2) h R) := by kernel_rfl
def c6_39 : ACode := .region (o6_39.map (·.2)) [0, 1, 2, 3, 4, 5, 6, 7, 8, 9, 10, 11, 12, 13, 14, 15] []
theorem s6_39 (h : wS fs out s.h.nx o6_39 s.t ⟨s.h.o, s.h.nx + 16⟩ (Q .normal)) : wC fs out c6_39 s Q := wC_region rfl rfl h
def o6_42 : List (Nat × AOper) := (0, ⟨some 2, .mov (.k (.v (.one (.bool false)))), none⟩) ::
   []
theorem h6_42 : wS fs out b o6_42 t h R = (wV fs out (b + 0) noT h (.mov (.k (.v (.one (.bool false))))) fun x2_0 h => R ⟨(upd t 2 x2_0), h⟩) := by kernel_rfl
def c6_42 : ACode := .region (o6_42.map (·.2)) [0] []
theorem s6_42 (h : wS fs out s.h.nx o6_42 s.t ⟨s.h.o, s.h.nx + 1⟩ (Q .normal)) : wC fs out c6_42 s Q := wC_region rfl rfl h
def c6_41 : ACode := .seq c6_42 .ret
theorem s6_41 (h : wS fs out s.h.nx o6_42 s.t ⟨s.h.o, s.h.nx + 1⟩ fun s1 => wC fs out .ret s1 Q) : wC fs out c6_41 s Q := wC_seq (s6_42 h)
def c6_40 : ACode := .cond (.t 79) c6_41 .skip [2, 3, 9, 10]
theorem s6_40 (h : onC (s.t 79) (wC fs out c6_41 s fun e s1 => Q e (keepOnly [2, 3, 9, 10] s1)) (Q .normal (keepOnly [2, 3, 9, 10] s))) : wC fs out c6_40 s Q := wC_condC (by first | exact h | (simp only [wC_skip, wC_exit, wC_ret]; exact h))
def c6_38 : ACode := .seq c6_39 c6_40
theorem s6_38 (h : wS fs out s.h.nx o6_39 s.t ⟨s.h.o, s.h.nx + 16⟩ fun s1 => wC fs out c6_40 s1 Q) : wC fs out c6_38 s Q := wC_seq (s6_39 h)
def o6_45 : List (Nat × AOper) := (0, ⟨some 80, .mov (.t 3), none⟩) ::
   (1, ⟨some 81, .len (.t 80), none⟩) ::
   (2, ⟨some 82, .mov (.k (.v (.one (.int .i64 0)))), none⟩) ::
   []
theorem h6_45 : wS fs out b o6_45 t h R = (wV fs out (b + 0) noT h (.mov (.k (t 3))) fun x80_0 h => wV fs out (b + 1) noT h (.len (.k x80_0)) fun x81_1 h => wV fs out (b + 2) noT h (.mov (.k (.v (.one (.int .i64 0))))) fun x82_2 h => R ⟨(upd (upd (upd t 80 x80_0) 81 x81_1) 82 x82_2), h⟩) := by kernel_rfl
def c6_45 : ACode := .region (o6_45.map (·.2)) [0, 1, 2] []
theorem s6_45 (h : wS fs out s.h.nx o6_45 s.t ⟨s.h.o, s.h.nx + 3⟩ (Q .normal)) : wC fs out c6_45 s Q := wC_region rfl rfl h
def o6_49 : List (Nat × AOper) := (0, ⟨some 83, .bin .lss (.t 82) (.t 81), none⟩) ::
   []
theorem h6_49 : wS fs out b o6_49 t h R = (wV fs out (b + 0) noT h (.bin .lss (.k (t 82)) (.k (t 81))) fun x83_0 h => R ⟨(upd t 83 x83_0), h⟩) := by kernel_rfl
def c6_49 : ACode := .region (o6_49.map (·.2)) [0] []
theorem s6_49 (h : wS fs out s.h.nx o6_49 s.t ⟨s.h.o, s.h.nx + 1⟩ (Q .normal)) : wC fs out c6_49 s Q := wC_region rfl rfl h
def c6_51 : ACode := .cond (.t 83) .skip (.exit 4) [3, 9, 10, 81, 82]
theorem s6_51 (h : onC (s.t 83) (Q .normal (keepOnly [3, 9, 10, 81, 82] s)) (Q (.exit 4) (keepOnly [3, 9, 10, 81, 82] s))) : wC fs out c6_51 s Q := wC_condC (by first | exact h | (simp only [wC_skip, wC_exit, wC_ret]; exact h))
def o6_55 : List (Nat × AOper) := (0, ⟨some 84, .mov (.t 82), none⟩) ::
   (1, ⟨some 12, .mov (.t 84), none⟩) ::
   []
theorem h6_55 : wS fs out b o6_55 t h R = (wV fs out (b + 0) noT h (.mov (.k (t 82))) fun x84_0 h => wV fs out (b + 1) noT h (.mov (.k x84_0)) fun x12_1 h => R ⟨(upd (upd t 84 x84_0) 12 x12_1), h⟩) := by kernel_rfl
def c6_55 : ACode := .region (o6_55.map (·.2)) [0, 1] []
theorem s6_55 (h : wS fs out s.h.nx o6_55 s.t ⟨s.h.o, s.h.nx + 2⟩ (Q .normal)) : wC fs out c6_55 s Q := wC_region rfl rfl h
def o6_57_5 : List (Nat × AOper) := (28, ⟨some 113, .pick (.t 95) (.k (.v (.one (.bool true)))) (.t 112), none⟩) ::
   []
theorem h6_57_5 : wS fs out b o6_57_5 t h R = (wV fs out (b + 28) noT h (.pick (.k (t 95)) (.k (.v (.one (.bool true)))) (.k (t 112))) fun x113_0 h => R ⟨(upd t 113 x113_0), h⟩) := by kernel_rfl
def o6_57_4g : List (Nat × AOper) := (27, ⟨some 112, .pick (.t 101) (.t 111) (.k (.v (.one (.bool false)))), none⟩) ::
   []
theorem h6_57_4g : wS fs out b o6_57_4g t h R = (wV fs out (b + 27) noT h (.pick (.k (t 101)) (.k (t 111)) (.k (.v (.one (.bool false))))) fun x112_0 h => R ⟨(upd t 112 x112_0), h⟩) := by kernel_rfl
def o6_57_4 : List (Nat × AOper) := grp 95 false o6_57_4g o6_57_5
theorem w6_57_4 : wS fs out b o6_57_4 t h R = onG (t 95) false (wS fs out b o6_57_4g (upd t 95 (.v (.one (.bool false)))) h fun s => wS fs out b o6_57_5 s.t s.h R) (wS fs out b o6_57_5 (upd (upd t 95 (.v (.one (.bool true)))) 112 (.tup [])) h R) (wS fs out b o6_57_5 (upd t 112 (.tup [])) h R) := wS_grpE rfl
def o6_57_3g : List (Nat × AOper) := (17, ⟨some 102, .mov (.t 9), none⟩) ::
   (18, ⟨some 103, .mov (.t 12), none⟩) ::
   (19, ⟨some 104, .iadr 1 (.t 102) (.t 103), none⟩) ::
   (20, ⟨some 105, .load none (.t 104), none⟩) ::
   (21, ⟨some 106, .mov (.t 3), none⟩) ::
   (22, ⟨some 107, .mov (.t 12), none⟩) ::
   (23, ⟨some 108, .iadr 2 (.t 106) (.t 107), none⟩) ::
   (24, ⟨some 109, .fadr 0 (.t 108), none⟩) ::
   (25, ⟨some 110, .load none (.t 109), none⟩) ::
   (26, ⟨some 111, .bin .neq (.t 105) (.t 110), none⟩) ::
   []
theorem h6_57_3g : wS fs out b o6_57_3g t h R = (wV fs out (b + 17) noT h (.mov (.k (t 9))) fun x102_0 h => wV fs out (b + 18) noT h (.mov (.k (t 12))) fun x103_1 h => wV fs out (b + 19) noT h (.iadr 1 (.k x102_0) (.k x103_1)) fun x104_2 h => wV fs out (b + 20) noT h (.load none (.k x104_2)) fun x105_3 h => wV fs out (b + 21) noT h (.mov (.k (t 3))) fun x106_4 h => wV fs out (b + 22) noT h (.mov (.k (t 12))) fun x107_5 h => wV fs out (b + 23) noT h (.iadr 2 (.k x106_4) (.k x107_5)) fun x108_6 h => wV fs out (b + 24) noT h (.fadr 0 (.k x108_6)) fun x109_7 h => wV fs out (b + 25) noT h (.load none (.k x109_7)) fun x110_8 h => wV fs out (b + 26) noT h (.bin .neq (.k x105_3) (.k x110_8)) fun x111_9 h => R ⟨(upd (upd (upd (upd (upd (upd (upd (upd (upd (upd t 102 x102_0) 103 x103_1) 104 x104_2) 105 x105_3) 106 x106_4) 107 x107_5) 108 x108_6) 109 x109_7) 110 x110_8) 111 x111_9), h⟩) := by kernel_rfl
def o6_57_3 : List (Nat × AOper) := grp 101 true o6_57_3g o6_57_4
theorem w6_57_3 : wS fs out b o6_57_3 t h R = onG (t 101) true (wS fs out b o6_57_3g (upd t 101 (.v (.one (.bool true)))) h fun s => wS fs out b o6_57_4 s.t s.h R) (wS fs out b o6_57_4 (upd (upd (upd (upd (upd (upd (upd (upd (upd (upd (upd t 101 (.v (.one (.bool false)))) 102 (.tup [])) 103 (.tup [])) 104 (.tup [])) 105 (.tup [])) 106 (.tup [])) 107 (.tup [])) 108 (.tup [])) 109 (.tup [])) 110 (.tup [])) 111 (.tup [])) h R) (wS fs out b o6_57_4 (upd (upd (upd (upd (upd (upd (upd (upd (upd (upd t 102 (.tup [])) 103 (.tup [])) 104 (.tup [])) 105 (.tup [])) 106 (.tup [])) 107 (.tup [])) 108 (.tup [])) 109 (.tup [])) 110 (.tup [])) 111 (.tup [])) h R) := wS_grpE rfl
def o6_57_2g : List (Nat × AOper) := (11, ⟨some 96, .mov (.t 3), none⟩) ::
   (12, ⟨some 97, .mov (.t 12), none⟩) ::
   (13, ⟨some 98, .iadr 2 (.t 96) (.t 97), none⟩) ::
   (14, ⟨some 99, .fadr 1 (.t 98), none⟩) ::
   (15, ⟨some 100, .load none (.t 99), none⟩) ::
   (16, ⟨some 101, .mov (.t 100), none⟩) ::
   []
theorem h6_57_2g : wS fs out b o6_57_2g t h R = (wV fs out (b + 11) noT h (.mov (.k (t 3))) fun x96_0 h => wV fs out (b + 12) noT h (.mov (.k (t 12))) fun x97_1 h => wV fs out (b + 13) noT h (.iadr 2 (.k x96_0) (.k x97_1)) fun x98_2 h => wV fs out (b + 14) noT h (.fadr 1 (.k x98_2)) fun x99_3 h => wV fs out (b + 15) noT h (.load none (.k x99_3)) fun x100_4 h => wV fs out (b + 16) noT h (.mov (.k x100_4)) fun x101_5 h => R ⟨(upd (upd (upd (upd (upd (upd t 96 x96_0) 97 x97_1) 98 x98_2) 99 x99_3) 100 x100_4) 101 x101_5), h⟩) := by kernel_rfl
def o6_57_2 : List (Nat × AOper) := grp 95 false o6_57_2g o6_57_3
theorem w6_57_2 : wS fs out b o6_57_2 t h R = onG (t 95) false (wS fs out b o6_57_2g (upd t 95 (.v (.one (.bool false)))) h fun s => wS fs out b o6_57_3 s.t s.h R) (wS fs out b o6_57_3 (upd (upd (upd (upd (upd (upd (upd t 95 (.v (.one (.bool true)))) 96 (.tup [])) 97 (.tup [])) 98 (.tup [])) 99 (.tup [])) 100 (.tup [])) 101 (.tup [])) h R) (wS fs out b o6_57_3 (upd (upd (upd (upd (upd (upd t 96 (.tup [])) 97 (.tup [])) 98 (.tup [])) 99 (.tup [])) 100 (.tup [])) 101 (.tup [])) h R) := wS_grpE rfl
def o6_57_1 : List (Nat × AOper) := (10, ⟨some 95, .mov (.t 94), none⟩) ::
   o6_57_2
theorem h6_57_1 : wS fs out b o6_57_1 t h R = (wV fs out (b + 10) noT h (.mov (.k (t 94))) fun x95_0 h => wS fs out b o6_57_2 (upd t 95 x95_0) h R) := by kernel_rfl
def o6_57 : List (Nat × AOper) := (0, ⟨some 85, .mov (.t 9), none⟩) ::
   (1, ⟨some 86, .mov (.t 12), none⟩) ::
   (2, ⟨some 87, .iadr 1 (.t 85) (.t 86), none⟩) ::
   (3, ⟨some 88, .load none (.t 87), none⟩) ::
   (4, ⟨some 89, .mov (.t 3), none⟩) ::
   (5, ⟨some 90, .mov (.t 12), none⟩) ::
   (6, ⟨some 91, .iadr 2 (.t 89) (.t 90), none⟩) ::
   (7, ⟨some 92, .fadr 0 (.t 91), none⟩) ::
   (8, ⟨some 93, .load none (.t 92), none⟩) ::
   (9, ⟨some 94, .bin .gtr (.t 88) (.t 93), none⟩) ::
   o6_57_1
theorem h6_57 : wS fs out b o6_57 t h R = (wV fs out (b + 0) noT h (.mov (.k (t 9))) fun x85_0 h => wV fs out (b + 1) noT h (.mov (.k (t 12))) fun x86_1 h => wV fs out (b + 2) noT h (.iadr 1 (.k x85_0) (.k x86_1)) fun x87_2 h => wV fs out (b + 3) noT h (.load none (.k x87_2)) fun x88_3 h => wV fs out (b + 4) noT h (.mov (.k (t 3))) fun x89_4 h => wV fs out (b + 5) noT h (.mov (.k (t 12))) fun x90_5 h => wV fs out (b + 6) noT h (.iadr 2 (.k x89_4) (.k x90_5)) fun x91_6 h => wV fs out (b + 7) noT h (.fadr 0 (.k x91_6)) fun x92_7 h => wV fs out (b + 8) noT h (.load none (.k x92_7)) fun x93_8 h => wV fs out (b + 9) noT h (.bin .gtr (.k x88_3) (.k x93_8)) fun x94_9 h => wS fs out b o6_57_1 (upd (upd (upd (upd (upd (upd (upd (upd (upd (upd t 85 x85_0) 86 x86_1) 87 x87_2) 88 x88_3) 89 x89_4) 90 x90_5) 91 x91_6) 92 x92_7) 93 x93_8) 94 x94_9) h R) := by kernel_rfl
def c6_57 : ACode := .region (o6_57.map (·.2)) [0, 1, 2, 3, 4, 5, 6, 7, 8, 9, 10, 11, 12, 13, 14, 15, 16, 17, 18, 19, 20, 21, 22, 23, 24, 25, 26, 27, 28] []
theorem s6_57 (h : wS fs out s.h.nx o6_57 s.t ⟨s.h.o, s.h.nx + 29⟩ (Q .normal)) : wC fs out c6_57 s Q := wC_region rfl rfl h
def o6_60 : List (Nat × AOper) := (0, ⟨some 2, .mov (.k (.v (.one (.bool false)))), none⟩) ::
   []
theorem h6_60 : wS fs out b o6_60 t h R = (wV fs out (b + 0) noT h (.mov (.k (.v (.one (.bool false))))) fun x2_0 h => R ⟨(upd t 2 x2_0), h⟩) := by kernel_rfl
def c6_60 : ACode := .region (o6_60.map (·.2)) [0] []
theorem s6_60 (h : wS fs out s.h.nx o6_60 s.t ⟨s.h.o, s.h.nx + 1⟩ (Q .normal)) : wC fs out c6_60 s Q := wC_region rfl rfl h
def c6_59 : ACode := .seq c6_60 .ret
theorem s6_59 (h : wS fs out s.h.nx o6_60 s.t ⟨s.h.o, s.h.nx + 1⟩ fun s1 => wC fs out .ret s1 Q) : wC fs out c6_59 s Q := wC_seq (s6_60 h)
def c6_58 : ACode := .cond (.t 113) c6_59 .skip [2, 3, 9, 10, 81, 82]
theorem s6_58 (h : onC (s.t 113) (wC fs out c6_59 s fun e s1 => Q e (keepOnly [2, 3, 9, 10, 81, 82] s1)) (Q .normal (keepOnly [2, 3, 9, 10, 81, 82] s))) : wC fs out c6_58 s Q := wC_condC (by first | exact h | (simp only [wC_skip, wC_exit, wC_ret]; exact h))
def c6_56 : ACode := .seq c6_57 c6_58
theorem s6_56 (h : wS fs out s.h.nx o6_57 s.t ⟨s.h.o, s.h.nx + 29⟩ fun s1 => wC fs out c6_58 s1 Q) : wC fs out c6_56 s Q := wC_seq (s6_57 h)
def c6_54 : ACode := .seq c6_55 c6_56
theorem s6_54 (h : wS fs out s.h.nx o6_55 s.t ⟨s.h.o, s.h.nx + 2⟩ fun s1 => wC fs out c6_56 s1 Q) : wC fs out c6_54 s Q := wC_seq (s6_55 h)
def c6_53 : ACode := .block 5 c6_54
theorem s6_53 (h : wC fs out c6_54 s fun e s1 => Q (if e = .exit 5 then .normal else e) s1) : wC fs out c6_53 s Q := wC_block h
def o6_61 : List (Nat × AOper) := (0, ⟨some 114, .bin .add (.t 82) (.k (.v (.one (.int .i64 1)))), none⟩) ::
   (1, ⟨some 82, .mov (.t 114), none⟩) ::
   []
theorem h6_61 : wS fs out b o6_61 t h R = (wV fs out (b + 0) noT h (.bin .add (.k (t 82)) (.k (.v (.one (.int .i64 1))))) fun x114_0 h => wV fs out (b + 1) noT h (.mov (.k x114_0)) fun x82_1 h => R ⟨(upd (upd t 114 x114_0) 82 x82_1), h⟩) := by kernel_rfl
def c6_61 : ACode := .region (o6_61.map (·.2)) [0, 1] []
theorem s6_61 (h : wS fs out s.h.nx o6_61 s.t ⟨s.h.o, s.h.nx + 2⟩ (Q .normal)) : wC fs out c6_61 s Q := wC_region rfl rfl h
def c6_52 : ACode := .seq c6_53 c6_61
theorem s6_52 (h : wC fs out c6_53 s fun e s1 => match e with | .normal => wC fs out c6_61 s1 Q | e => Q e s1) : wC fs out c6_52 s Q := wC_seq h
def c6_50 : ACode := .seq c6_51 c6_52
theorem s6_50 (h : onC (s.t 83) (wC fs out c6_52 (keepOnly [3, 9, 10, 81, 82] s) Q) (Q (.exit 4) (keepOnly [3, 9, 10, 81, 82] s))) : wC fs out c6_50 s Q := wC_seq (s6_51 h)
def c6_48 : ACode := .seq c6_49 c6_50
theorem s6_48 (h : wS fs out s.h.nx o6_49 s.t ⟨s.h.o, s.h.nx + 1⟩ fun s1 => wC fs out c6_50 s1 Q) : wC fs out c6_48 s Q := wC_seq (s6_49 h)
def c6_47 : ACode := .loop [3, 9, 10, 81, 82] c6_48
theorem s6_47 (I : Nat → St → Prop) (n : Nat) (h0 : I n (keepOnly [3, 9, 10, 81, 82] s)) (step : ∀ m s (Q' : AExit → St → Prop), I m s → (∀ m' s1, m' < m → I m' (keepOnly [3, 9, 10, 81, 82] s1) → Q' .normal s1) → (∀ i s1, Q (.exit i) s1 → Q' (.exit i) s1) → (∀ s1, Q .ret s1 → Q' .ret s1) → wC fs out c6_48 s Q') : wC fs out c6_47 s Q := wC_loopQ I n h0 step
def c6_46 : ACode := .block 4 c6_47
theorem s6_46 (h : wC fs out c6_47 s fun e s1 => Q (if e = .exit 4 then .normal else e) s1) : wC fs out c6_46 s Q := wC_block h
def c6_44 : ACode := .seq c6_45 c6_46
theorem s6_44 (h : wS fs out s.h.nx o6_45 s.t ⟨s.h.o, s.h.nx + 3⟩ fun s1 => wC fs out c6_46 s1 Q) : wC fs out c6_44 s Q := wC_seq (s6_45 h)
def o6_64 : List (Nat × AOper) := (0, ⟨some 115, .mov (.t 10), none⟩) ::
   (1, ⟨some 116, .len (.t 115), none⟩) ::
   (2, ⟨some 117, .mov (.k (.v (.one (.int .i64 0)))), none⟩) ::
   []
theorem h6_64 : wS fs out b o6_64 t h R = (wV fs out (b + 0) noT h (.mov (.k (t 10))) fun x115_0 h => wV fs out (b + 1) noT h (.len (.k x115_0)) fun x116_1 h => wV fs out (b + 2) noT h (.mov (.k (.v (.one (.int .i64 0))))) fun x117_2 h => R ⟨(upd (upd (upd t 115 x115_0) 116 x116_1) 117 x117_2), h⟩) := by kernel_rfl
def c6_64 : ACode := .region (o6_64.map (·.2)) [0, 1, 2] []
theorem s6_64 (h : wS fs out s.h.nx o6_64 s.t ⟨s.h.o, s.h.nx + 3⟩ (Q .normal)) : wC fs out c6_64 s Q := wC_region rfl rfl h
def o6_68 : List (Nat × AOper) := (0, ⟨some 118, .bin .lss (.t 117) (.t 116), none⟩) ::
   []
theorem h6_68 : wS fs out b o6_68 t h R = (wV fs out (b + 0) noT h (.bin .lss (.k (t 117)) (.k (t 116))) fun x118_0 h => R ⟨(upd t 118 x118_0), h⟩) := by kernel_rfl
def c6_68 : ACode := .region (o6_68.map (·.2)) [0] []
theorem s6_68 (h : wS fs out s.h.nx o6_68 s.t ⟨s.h.o, s.h.nx + 1⟩ (Q .normal)) : wC fs out c6_68 s Q := wC_region rfl rfl h
def c6_70 : ACode := .cond (.t 118) .skip (.exit 6) [115, 116, 117]
theorem s6_70 (h : onC (s.t 118) (Q .normal (keepOnly [115, 116, 117] s)) (Q (.exit 6) (keepOnly [115, 116, 117] s))) : wC fs out c6_70 s Q := wC_condC (by first | exact h | (simp only [wC_skip, wC_exit, wC_ret]; exact h))
def o6_74 : List (Nat × AOper) := (0, ⟨some 119, .iadr 1 (.t 115) (.t 117), none⟩) ::
   (1, ⟨some 120, .load none (.t 119), none⟩) ::
   (2, ⟨some 14, .mov (.t 120), none⟩) ::
   []
theorem h6_74 : wS fs out b o6_74 t h R = (wV fs out (b + 0) noT h (.iadr 1 (.k (t 115)) (.k (t 117))) fun x119_0 h => wV fs out (b + 1) noT h (.load none (.k x119_0)) fun x120_1 h => wV fs out (b + 2) noT h (.mov (.k x120_1)) fun x14_2 h => R ⟨(upd (upd (upd t 119 x119_0) 120 x120_1) 14 x14_2), h⟩) := by kernel_rfl
def c6_74 : ACode := .region (o6_74.map (·.2)) [0, 1, 2] []
theorem s6_74 (h : wS fs out s.h.nx o6_74 s.t ⟨s.h.o, s.h.nx + 3⟩ (Q .normal)) : wC fs out c6_74 s Q := wC_region rfl rfl h
def o6_76 : List (Nat × AOper) := (0, ⟨some 121, .mov (.t 14), none⟩) ::
   (1, ⟨some 122, .not (.t 121), none⟩) ::
   []
theorem h6_76 : wS fs out b o6_76 t h R = (wV fs out (b + 0) noT h (.mov (.k (t 14))) fun x121_0 h => wV fs out (b + 1) noT h (.not (.k x121_0)) fun x122_1 h => R ⟨(upd (upd t 121 x121_0) 122 x122_1), h⟩) := by kernel_rfl
def c6_76 : ACode := .region (o6_76.map (·.2)) [0, 1] []
theorem s6_76 (h : wS fs out s.h.nx o6_76 s.t ⟨s.h.o, s.h.nx + 2⟩ (Q .normal)) : wC fs out c6_76 s Q := wC_region rfl rfl h
def o6_79 : List (Nat × AOper) := (0, ⟨some 2, .mov (.k (.v (.one (.bool false)))), none⟩) ::
   []
theorem h6_79 : wS fs out b o6_79 t h R = (wV fs out (b + 0) noT h (.mov (.k (.v (.one (.bool false))))) fun x2_0 h => R ⟨(upd t 2 x2_0), h⟩) := by kernel_rfl
def c6_79 : ACode := .region (o6_79.map (·.2)) [0] []
theorem s6_79 (h : wS fs out s.h.nx o6_79 s.t ⟨s.h.o, s.h.nx + 1⟩ (Q .normal)) : wC fs out c6_79 s Q := wC_region rfl rfl h
def c6_78 : ACode := .seq c6_79 .ret
theorem s6_78 (h : wS fs out s.h.nx o6_79 s.t ⟨s.h.o, s.h.nx + 1⟩ fun s1 => wC fs out .ret s1 Q) : wC fs out c6_78 s Q := wC_seq (s6_79 h)
def c6_77 : ACode := .cond (.t 122) c6_78 .skip [2, 115, 116, 117]
theorem s6_77 (h : onC (s.t 122) (wC fs out c6_78 s fun e s1 => Q e (keepOnly [2, 115, 116, 117] s1)) (Q .normal (keepOnly [2, 115, 116, 117] s))) : wC fs out c6_77 s Q := wC_condC (by first | exact h | (simp only [wC_skip, wC_exit, wC_ret]; exact h))
def c6_75 : ACode := .seq c6_76 c6_77
theorem s6_75 (h : wS fs out s.h.nx o6_76 s.t ⟨s.h.o, s.h.nx + 2⟩ fun s1 => wC fs out c6_77 s1 Q) : wC fs out c6_75 s Q := wC_seq (s6_76 h)
def c6_73 : ACode := .seq c6_74 c6_75
theorem s6_73 (h : wS fs out s.h.nx o6_74 s.t ⟨s.h.o, s.h.nx + 3⟩ fun s1 => wC fs out c6_75 s1 Q) : wC fs out c6_73 s Q := wC_seq (s6_74 h)
def c6_72 : ACode := .block 7 c6_73
theorem s6_72 (h : wC fs out c6_73 s fun e s1 => Q (if e = .exit 7 then .normal else e) s1) : wC fs out c6_72 s Q := wC_block h
def o6_80 : List (Nat × AOper) := (0, ⟨some 123, .bin .add (.t 117) (.k (.v (.one (.int .i64 1)))), none⟩) ::
   (1, ⟨some 117, .mov (.t 123), none⟩) ::
   []
theorem h6_80 : wS fs out b o6_80 t h R = (wV fs out (b + 0) noT h (.bin .add (.k (t 117)) (.k (.v (.one (.int .i64 1))))) fun x123_0 h => wV fs out (b + 1) noT h (.mov (.k x123_0)) fun x117_1 h => R ⟨(upd (upd t 123 x123_0) 117 x117_1), h⟩) := by kernel_rfl
def c6_80 : ACode := .region (o6_80.map (·.2)) [0, 1] []
theorem s6_80 (h : wS fs out s.h.nx o6_80 s.t ⟨s.h.o, s.h.nx + 2⟩ (Q .normal)) : wC fs out c6_80 s Q := wC_region rfl rfl h
def c6_71 : ACode := .seq c6_72 c6_80
theorem s6_71 (h : wC fs out c6_72 s fun e s1 => match e with | .normal => wC fs out c6_80 s1 Q | e => Q e s1) : wC fs out c6_71 s Q := wC_seq h
def c6_69 : ACode := .seq c6_70 c6_71
theorem s6_69 (h : onC (s.t 118) (wC fs out c6_71 (keepOnly [115, 116, 117] s) Q) (Q (.exit 6) (keepOnly [115, 116, 117] s))) : wC fs out c6_69 s Q := wC_seq (s6_70 h)
def c6_67 : ACode := .seq c6_68 c6_69
theorem s6_67 (h : wS fs out s.h.nx o6_68 s.t ⟨s.h.o, s.h.nx + 1⟩ fun s1 => wC fs out c6_69 s1 Q) : wC fs out c6_67 s Q := wC_seq (s6_68 h)
def c6_66 : ACode := .loop [115, 116, 117] c6_67
theorem s6_66 (I : Nat → St → Prop) (n : Nat) (h0 : I n (keepOnly [115, 116, 117] s)) (step : ∀ m s (Q' : AExit → St → Prop), I m s → (∀ m' s1, m' < m → I m' (keepOnly [115, 116, 117] s1) → Q' .normal s1) → (∀ i s1, Q (.exit i) s1 → Q' (.exit i) s1) → (∀ s1, Q .ret s1 → Q' .ret s1) → wC fs out c6_67 s Q') : wC fs out c6_66 s Q := wC_loopQ I n h0 step
def c6_65 : ACode := .block 6 c6_66
theorem s6_65 (h : wC fs out c6_66 s fun e s1 => Q (if e = .exit 6 then .normal else e) s1) : wC fs out c6_65 s Q := wC_block h
def c6_63 : ACode := .seq c6_64 c6_65
theorem s6_63 (h : wS fs out s.h.nx o6_64 s.t ⟨s.h.o, s.h.nx + 3⟩ fun s1 => wC fs out c6_65 s1 Q) : wC fs out c6_63 s Q := wC_seq (s6_64 h)
def o6_82_1 : List (Nat × AOper) := (1, ⟨some 2, .mov (.t 124), none⟩) ::
   []
theorem h6_82_1 : wS fs out b o6_82_1 t h R = (wV fs out (b + 1) noT h (.mov (.k (t 124))) fun x2_0 h => R ⟨(upd t 2 x2_0), h⟩) := by kernel_rfl
def o6_82 : List (Nat × AOper) := (0, ⟨some 124, .call 14 [], none⟩) ::
   o6_82_1
theorem h6_82 : wS fs out b o6_82 t h R = (wV fs out (b + 0) noT h (.call 14 []) fun x124_0 h => wS fs out b o6_82_1 (upd t 124 x124_0) h R) := by kernel_rfl
def c6_82 : ACode := .region (o6_82.map (·.2)) [0, 1] []
theorem s6_82 (h : wS fs out s.h.nx o6_82 s.t ⟨s.h.o, s.h.nx + 2⟩ (Q .normal)) : wC fs out c6_82 s Q := wC_region rfl rfl h
def c6_81 : ACode := .seq c6_82 .ret
theorem s6_81 (h : wS fs out s.h.nx o6_82 s.t ⟨s.h.o, s.h.nx + 2⟩ fun s1 => wC fs out .ret s1 Q) : wC fs out c6_81 s Q := wC_seq (s6_82 h)
def c6_62 : ACode := .seq c6_63 c6_81
theorem s6_62 (h : wC fs out c6_63 s fun e s1 => match e with | .normal => wC fs out c6_81 s1 Q | e => Q e s1) : wC fs out c6_62 s Q := wC_seq h
def c6_43 : ACode := .seq c6_44 c6_62
theorem s6_43 (h : wC fs out c6_44 s fun e s1 => match e with | .normal => wC fs out c6_62 s1 Q | e => Q e s1) : wC fs out c6_43 s Q := wC_seq h
def c6_37 : ACode := .seq c6_38 c6_43
theorem s6_37 (h : wC fs out c6_38 s fun e s1 => match e with | .normal => wC fs out c6_43 s1 Q | e => Q e s1) : wC fs out c6_37 s Q := wC_seq h
def c6_35 : ACode := .seq c6_36 c6_37
theorem s6_35 (h : wS fs out s.h.nx o6_36 s.t ⟨s.h.o, s.h.nx + 10⟩ fun s1 => wC fs out c6_37 s1 Q) : wC fs out c6_35 s Q := wC_seq (s6_36 h)
def c6_4 : ACode := .seq c6_5 c6_35
theorem s6_4 (h : wC fs out c6_5 s fun e s1 => match e with | .normal => wC fs out c6_35 s1 Q | e => Q e s1) : wC fs out c6_4 s Q := wC_seq h
def c6_2 : ACode := .seq c6_3 c6_4
theorem s6_2 (h : wS fs out s.h.nx o6_3 s.t ⟨s.h.o, s.h.nx + 9⟩ fun s1 => wC fs out c6_4 s1 Q) : wC fs out c6_2 s Q := wC_seq (s6_3 h)
def c6_0 : ACode := .seq c6_1 c6_2
theorem s6_0 (h : wS fs out s.h.nx o6_1 s.t ⟨s.h.o, s.h.nx + 1⟩ fun s1 => wC fs out c6_2 s1 Q) : wC fs out c6_0 s Q := wC_seq (s6_1 h)
def a6 : AFunc := ⟨1, [2], none, c6_0⟩
theorem t6 : tell Try.prog Try.f6 [([3, 4, 22, 23], [], []), ([3, 4, 22, 23], [], []), ([3, 4, 6, 22, 23, 26, 27, 28], [], []), ([3, 4, 6, 22, 23, 26, 27, 28], [], []), ([3, 4, 6, 22, 23, 26, 27, 28], [], []), ([0, 1, 2, 3, 4, 5, 6, 7, 8, 9, 10, 11, 12, 13, 14, 15, 16, 17, 18, 19], [], [0, 0, 0, 0, 12, 28, 60, 0, 0, 256, 896, 1920, 3968, 0, 8192, 32640, 65532, 131071, 262143, 524287]), ([2, 3, 9, 10], [], []), ([3, 9, 10, 81, 82], [], []), ([3, 9, 10, 81, 82], [], []), ([0, 1, 2, 3, 4, 5, 6, 7, 8, 9, 10, 11, 12, 13, 14, 15, 16, 17, 18, 19, 20, 21, 22, 23, 24, 25, 26, 27, 28], [], [0, 0, 3, 7, 0, 0, 48, 112, 240, 511, 1023, 2047, 2047, 8191, 16383, 32767, 65535, 131071, 131071, 524287, 1048575, 131071, 131071, 6422527, 14811135, 31588351, 67108863, 134217727, 268435455]), ([2, 3, 9, 10, 81, 82], [], []), ([115, 116, 117], [], []), ([115, 116, 117], [], []), ([2, 115, 116, 117], [], [])] = some a6 := by kernel_rfl
theorem ok6 : FuncOk Try.prog 6 a6 := tell_ok Try.func6 t6

end
def fl6 (f : Nat) : Option AFunc := if f = 6 then some a6 else fs f
theorem fl6_ok : ∀ f fn, fl6 f = some fn → FuncOk Try.prog f fn := by
  intro f fn h
  unfold fl6 at h
  split at h
  · rename_i hf; subst hf; cases h; exact ok6
  · exact fs_ok f fn h
theorem fs6 : fl6 6 = some a6 := by simp [fl6]
theorem lift6 {f : Nat} {args : List T} {h : AH} {Q : T → AH → Prop} (hw : wF fs out f args h Q) : wF fl6 out f args h Q := by
  refine wF_ext (fun f fn hf => ?_) (fun f hf hf' args h => ?_) hw
  · unfold fl6; rw [if_neg (fun e => by subst e; cases hf)]; exact hf
  · unfold fl6 at hf'; split at hf'
    · rename_i e; subst e; cases args <;> rfl
    · exact absurd hf hf'
end Go.Proofs.Ythoicdnlcnppgaa.Fn
