/- A law's function, as the abstract machine's, and that it is. Conditions: none. -/
import Derived.Test.YthoicdnlcnppgaaFn
set_option linter.unusedVariables false
set_option linter.unusedSimpArgs false
namespace Go.Proofs.Ythoicdnlcnppgaa.Fn
open Go Go.Am
set_option maxRecDepth 100000
section
variable {fs : Nat → Option AFunc} {out : Rec} {s : St} {Q : AExit → St → Prop} {b : Nat} {t : Nat → T} {h : AH} {R : St → Prop}
/-- railplan/railplanlaw34.DelayLeast -/
def o4_1 : List (Nat × AOper) := (0, ⟨some 2, .mov (.k (.v (.one (.bool false)))), none⟩) ::
   []
theorem h4_1 : wS fs out b o4_1 t h R = (wV fs out (b + 0) noT h (.mov (.k (.v (.one (.bool false))))) fun x2_0 h => R ⟨(upd t 2 x2_0), h⟩) := by kernel_rfl
def c4_1 : ACode := .region (o4_1.map (·.2)) [0] []
theorem s4_1 (h : wS fs out s.h.nx o4_1 s.t ⟨s.h.o, s.h.nx + 1⟩ (Q .normal)) : wC fs out c4_1 s Q := wC_region rfl rfl h
def o4_3_1 : List (Nat × AOper) := (2, ⟨some 18, .mov (.t 20), none⟩) ::
   (3, ⟨some 21, .ext 0 (.t 18), none⟩) ::
   (4, ⟨some 22, .ext 1 (.t 18), none⟩) ::
   (5, ⟨some 23, .ext 2 (.t 18), none⟩) ::
   (6, ⟨some 3, .mov (.t 21), none⟩) ::
   (7, ⟨some 4, .mov (.t 22), none⟩) ::
   (8, ⟨some 5, .mov (.t 23), none⟩) ::
   []
theorem h4_3_1 : wS fs out b o4_3_1 t h R = (wV fs out (b + 2) noT h (.mov (.k (t 20))) fun x18_0 h => wV fs out (b + 3) noT h (.ext 0 (.k x18_0)) fun x21_1 h => wV fs out (b + 4) noT h (.ext 1 (.k x18_0)) fun x22_2 h => wV fs out (b + 5) noT h (.ext 2 (.k x18_0)) fun x23_3 h => wV fs out (b + 6) noT h (.mov (.k x21_1)) fun x3_4 h => wV fs out (b + 7) noT h (.mov (.k x22_2)) fun x4_5 h => wV fs out (b + 8) noT h (.mov (.k x23_3)) fun x5_6 h => R ⟨(upd (upd (upd (upd (upd (upd (upd t 18 x18_0) 21 x21_1) 22 x22_2) 23 x23_3) 3 x3_4) 4 x4_5) 5 x5_6), h⟩) := by kernel_rfl
def o4_3 : List (Nat × AOper) := (0, ⟨some 19, .mov (.t 0), none⟩) ::
   (1, ⟨some 20, .call 12 [(.t 19)], none⟩) ::
   o4_3_1
theorem h4_3 : wS fs out b o4_3 t h R = (wV fs out (b + 0) noT h (.mov (.k (t 0))) fun x19_0 h => wV fs out (b + 1) noT h (.call 12 [(.k x19_0)]) fun x20_1 h => wS fs out b o4_3_1 (upd (upd t 19 x19_0) 20 x20_1) h R) := by kernel_rfl
def c4_3 : ACode := .region (o4_3.map (·.2)) [0, 1, 2, 3, 4, 5, 6, 7, 8] []
theorem s4_3 (h : wS fs out s.h.nx o4_3 s.t ⟨s.h.o, s.h.nx + 9⟩ (Q .normal)) : wC fs out c4_3 s Q := wC_region rfl rfl h
def o4_6 : List (Nat × AOper) := (0, ⟨some 24, .mov (.t 4), none⟩) ::
   (1, ⟨some 25, .len (.t 24), none⟩) ::
   (2, ⟨some 26, .mov (.k (.v (.one (.int .i64 0)))), none⟩) ::
   []
theorem h4_6 : wS fs out b o4_6 t h R = (wV fs out (b + 0) noT h (.mov (.k (t 4))) fun x24_0 h => wV fs out (b + 1) noT h (.len (.k x24_0)) fun x25_1 h => wV fs out (b + 2) noT h (.mov (.k (.v (.one (.int .i64 0))))) fun x26_2 h => R ⟨(upd (upd (upd t 24 x24_0) 25 x25_1) 26 x26_2), h⟩) := by kernel_rfl
def c4_6 : ACode := .region (o4_6.map (·.2)) [0, 1, 2] []
theorem s4_6 (h : wS fs out s.h.nx o4_6 s.t ⟨s.h.o, s.h.nx + 3⟩ (Q .normal)) : wC fs out c4_6 s Q := wC_region rfl rfl h
def o4_10 : List (Nat × AOper) := (0, ⟨some 27, .bin .lss (.t 26) (.t 25), none⟩) ::
   []
theorem h4_10 : wS fs out b o4_10 t h R = (wV fs out (b + 0) noT h (.bin .lss (.k (t 26)) (.k (t 25))) fun x27_0 h => R ⟨(upd t 27 x27_0), h⟩) := by kernel_rfl
def c4_10 : ACode := .region (o4_10.map (·.2)) [0] []
theorem s4_10 (h : wS fs out s.h.nx o4_10 s.t ⟨s.h.o, s.h.nx + 1⟩ (Q .normal)) : wC fs out c4_10 s Q := wC_region rfl rfl h
def c4_12 : ACode := .cond (.t 27) .skip (.exit 0) [3, 4, 5, 25, 26]
theorem s4_12 (h : onC (s.t 27) (Q .normal (keepOnly [3, 4, 5, 25, 26] s)) (Q (.exit 0) (keepOnly [3, 4, 5, 25, 26] s))) : wC fs out c4_12 s Q := wC_condC (by first | exact h | (simp only [wC_skip, wC_exit, wC_ret]; exact h))
def o4_16 : List (Nat × AOper) := (0, ⟨some 28, .mov (.t 26), none⟩) ::
   (1, ⟨some 6, .mov (.t 28), none⟩) ::
   []
theorem h4_16 : wS fs out b o4_16 t h R = (wV fs out (b + 0) noT h (.mov (.k (t 26))) fun x28_0 h => wV fs out (b + 1) noT h (.mov (.k x28_0)) fun x6_1 h => R ⟨(upd (upd t 28 x28_0) 6 x6_1), h⟩) := by kernel_rfl
def c4_16 : ACode := .region (o4_16.map (·.2)) [0, 1] []
theorem s4_16 (h : wS fs out s.h.nx o4_16 s.t ⟨s.h.o, s.h.nx + 2⟩ (Q .normal)) : wC fs out c4_16 s Q := wC_region rfl rfl h
def o4_17 : List (Nat × AOper) := (0, ⟨some 29, .mov (.t 4), none⟩) ::
   (1, ⟨some 30, .mov (.t 6), none⟩) ::
   (2, ⟨some 31, .iadr 4 (.t 29) (.t 30), none⟩) ::
   (3, ⟨some 32, .fadr 3 (.t 31), none⟩) ::
   (4, ⟨none, .store 1 (.t 32) (.k (.v (.one (.int .i64 (-1))))), none⟩) ::
   []
theorem h4_17 : wS fs out b o4_17 t h R = (wV fs out (b + 0) noT h (.mov (.k (t 4))) fun x29_0 h => wV fs out (b + 1) noT h (.mov (.k (t 6))) fun x30_1 h => wV fs out (b + 2) noT h (.iadr 4 (.k x29_0) (.k x30_1)) fun x31_2 h => wV fs out (b + 3) noT h (.fadr 3 (.k x31_2)) fun x32_3 h => wV fs out (b + 4) noT h (.store 1 (.k x32_3) (.k (.v (.one (.int .i64 (-1)))))) fun _ h => R ⟨(upd (upd (upd (upd t 29 x29_0) 30 x30_1) 31 x31_2) 32 x32_3), h⟩) := by kernel_rfl
def c4_17 : ACode := .region (o4_17.map (·.2)) [0, 1, 2, 3, 4] []
theorem s4_17 (h : wS fs out s.h.nx o4_17 s.t ⟨s.h.o, s.h.nx + 5⟩ (Q .normal)) : wC fs out c4_17 s Q := wC_region rfl rfl h
def c4_15 : ACode := .seq c4_16 c4_17
theorem s4_15 (h : wS fs out s.h.nx o4_16 s.t ⟨s.h.o, s.h.nx + 2⟩ fun s1 => wC fs out c4_17 s1 Q) : wC fs out c4_15 s Q := wC_seq (s4_16 h)
def c4_14 : ACode := .block 1 c4_15
theorem s4_14 (h : wC fs out c4_15 s fun e s1 => Q (if e = .exit 1 then .normal else e) s1) : wC fs out c4_14 s Q := wC_block h
def o4_18 : List (Nat × AOper) := (0, ⟨some 33, .bin .add (.t 26) (.k (.v (.one (.int .i64 1)))), none⟩) ::
   (1, ⟨some 26, .mov (.t 33), none⟩) ::
   []
theorem h4_18 : wS fs out b o4_18 t h R = (wV fs out (b + 0) noT h (.bin .add (.k (t 26)) (.k (.v (.one (.int .i64 1))))) fun x33_0 h => wV fs out (b + 1) noT h (.mov (.k x33_0)) fun x26_1 h => R ⟨(upd (upd t 33 x33_0) 26 x26_1), h⟩) := by kernel_rfl
def c4_18 : ACode := .region (o4_18.map (·.2)) [0, 1] []
theorem s4_18 (h : wS fs out s.h.nx o4_18 s.t ⟨s.h.o, s.h.nx + 2⟩ (Q .normal)) : wC fs out c4_18 s Q := wC_region rfl rfl h
def c4_13 : ACode := .seq c4_14 c4_18
theorem s4_13 (h : wC fs out c4_14 s fun e s1 => match e with | .normal => wC fs out c4_18 s1 Q | e => Q e s1) : wC fs out c4_13 s Q := wC_seq h
def c4_11 : ACode := .seq c4_12 c4_13
theorem s4_11 (h : onC (s.t 27) (wC fs out c4_13 (keepOnly [3, 4, 5, 25, 26] s) Q) (Q (.exit 0) (keepOnly [3, 4, 5, 25, 26] s))) : wC fs out c4_11 s Q := wC_seq (s4_12 h)
def c4_9 : ACode := .seq c4_10 c4_11
theorem s4_9 (h : wS fs out s.h.nx o4_10 s.t ⟨s.h.o, s.h.nx + 1⟩ fun s1 => wC fs out c4_11 s1 Q) : wC fs out c4_9 s Q := wC_seq (s4_10 h)
def c4_8 : ACode := .loop [3, 4, 5, 25, 26] c4_9
theorem s4_8 (I : Nat → St → Prop) (n : Nat) (h0 : I n (keepOnly [3, 4, 5, 25, 26] s)) (step : ∀ m s (Q' : AExit → St → Prop), I m s → (∀ m' s1, m' < m → I m' (keepOnly [3, 4, 5, 25, 26] s1) → Q' .normal s1) → (∀ i s1, Q (.exit i) s1 → Q' (.exit i) s1) → (∀ s1, Q .ret s1 → Q' .ret s1) → wC fs out c4_9 s Q') : wC fs out c4_8 s Q := wC_loopQ I n h0 step
def c4_7 : ACode := .block 0 c4_8
theorem s4_7 (h : wC fs out c4_8 s fun e s1 => Q (if e = .exit 0 then .normal else e) s1) : wC fs out c4_7 s Q := wC_block h
def c4_5 : ACode := .seq c4_6 c4_7
theorem s4_5 (h : wS fs out s.h.nx o4_6 s.t ⟨s.h.o, s.h.nx + 3⟩ fun s1 => wC fs out c4_7 s1 Q) : wC fs out c4_5 s Q := wC_seq (s4_6 h)
def o4_20_1 : List (Nat × AOper) := (4, ⟨some 34, .mov (.t 38), none⟩) ::
   (5, ⟨some 39, .ext 0 (.t 34), none⟩) ::
   (6, ⟨some 40, .ext 1 (.t 34), none⟩) ::
   (7, ⟨some 41, .ext 2 (.t 34), none⟩) ::
   (8, ⟨some 7, .mov (.t 39), none⟩) ::
   (9, ⟨some 8, .mov (.t 40), none⟩) ::
   (10, ⟨some 9, .mov (.t 41), none⟩) ::
   []
theorem h4_20_1 : wS fs out b o4_20_1 t h R = (wV fs out (b + 4) noT h (.mov (.k (t 38))) fun x34_0 h => wV fs out (b + 5) noT h (.ext 0 (.k x34_0)) fun x39_1 h => wV fs out (b + 6) noT h (.ext 1 (.k x34_0)) fun x40_2 h => wV fs out (b + 7) noT h (.ext 2 (.k x34_0)) fun x41_3 h => wV fs out (b + 8) noT h (.mov (.k x39_1)) fun x7_4 h => wV fs out (b + 9) noT h (.mov (.k x40_2)) fun x8_5 h => wV fs out (b + 10) noT h (.mov (.k x41_3)) fun x9_6 h => R ⟨(upd (upd (upd (upd (upd (upd (upd t 34 x34_0) 39 x39_1) 40 x40_2) 41 x41_3) 7 x7_4) 8 x8_5) 9 x9_6), h⟩) := by kernel_rfl
def o4_20 : List (Nat × AOper) := (0, ⟨some 35, .mov (.t 3), none⟩) ::
   (1, ⟨some 36, .mov (.t 4), none⟩) ::
   (2, ⟨some 37, .mov (.t 5), none⟩) ::
   (3, ⟨some 38, .call 13 [(.t 35), (.t 36), (.t 37)], none⟩) ::
   o4_20_1
theorem h4_20 : wS fs out b o4_20 t h R = (wV fs out (b + 0) noT h (.mov (.k (t 3))) fun x35_0 h => wV fs out (b + 1) noT h (.mov (.k (t 4))) fun x36_1 h => wV fs out (b + 2) noT h (.mov (.k (t 5))) fun x37_2 h => wV fs out (b + 3) noT h (.call 13 [(.k x35_0), (.k x36_1), (.k x37_2)]) fun x38_3 h => wS fs out b o4_20_1 (upd (upd (upd (upd t 35 x35_0) 36 x36_1) 37 x37_2) 38 x38_3) h R) := by kernel_rfl
def c4_20 : ACode := .region (o4_20.map (·.2)) [0, 1, 2, 3, 4, 5, 6, 7, 8, 9, 10] []
theorem s4_20 (h : wS fs out s.h.nx o4_20 s.t ⟨s.h.o, s.h.nx + 11⟩ (Q .normal)) : wC fs out c4_20 s Q := wC_region rfl rfl h
def o4_23_2 : List (Nat × AOper) := (8, ⟨some 50, .pick (.t 44) (.k (.v (.one (.bool true)))) (.t 49), none⟩) ::
   []
theorem h4_23_2 : wS fs out b o4_23_2 t h R = (wV fs out (b + 8) noT h (.pick (.k (t 44)) (.k (.v (.one (.bool true)))) (.k (t 49))) fun x50_0 h => R ⟨(upd t 50 x50_0), h⟩) := by kernel_rfl
def o4_23_1g : List (Nat × AOper) := (3, ⟨some 45, .mov (.t 7), none⟩) ::
   (4, ⟨some 46, .len (.t 45), none⟩) ::
   (5, ⟨some 47, .mov (.t 3), none⟩) ::
   (6, ⟨some 48, .len (.t 47), none⟩) ::
   (7, ⟨some 49, .bin .neq (.t 46) (.t 48), none⟩) ::
   []
theorem h4_23_1g : wS fs out b o4_23_1g t h R = (wV fs out (b + 3) noT h (.mov (.k (t 7))) fun x45_0 h => wV fs out (b + 4) noT h (.len (.k x45_0)) fun x46_1 h => wV fs out (b + 5) noT h (.mov (.k (t 3))) fun x47_2 h => wV fs out (b + 6) noT h (.len (.k x47_2)) fun x48_3 h => wV fs out (b + 7) noT h (.bin .neq (.k x46_1) (.k x48_3)) fun x49_4 h => R ⟨(upd (upd (upd (upd (upd t 45 x45_0) 46 x46_1) 47 x47_2) 48 x48_3) 49 x49_4), h⟩) := by kernel_rfl
def o4_23_1 : List (Nat × AOper) := grp 44 false o4_23_1g o4_23_2
theorem w4_23_1 : wS fs out b o4_23_1 t h R = onG (t 44) false (wS fs out b o4_23_1g (upd t 44 (.v (.one (.bool false)))) h fun s => wS fs out b o4_23_2 s.t s.h R) (wS fs out b o4_23_2 (upd (upd (upd (upd (upd (upd t 44 (.v (.one (.bool true)))) 45 (.tup [])) 46 (.tup [])) 47 (.tup [])) 48 (.tup [])) 49 (.tup [])) h R) (wS fs out b o4_23_2 (upd (upd (upd (upd (upd t 45 (.tup [])) 46 (.tup [])) 47 (.tup [])) 48 (.tup [])) 49 (.tup [])) h R) := wS_grpE rfl
def o4_23 : List (Nat × AOper) := (0, ⟨some 42, .mov (.t 9), none⟩) ::
   (1, ⟨some 43, .bin .neq (.t 42) (.k (.v (.one (.int .i64 0)))), none⟩) ::
   (2, ⟨some 44, .mov (.t 43), none⟩) ::
   o4_23_1
theorem h4_23 : wS fs out b o4_23 t h R = (wV fs out (b + 0) noT h (.mov (.k (t 9))) fun x42_0 h => wV fs out (b + 1) noT h (.bin .neq (.k x42_0) (.k (.v (.one (.int .i64 0))))) fun x43_1 h => wV fs out (b + 2) noT h (.mov (.k x43_1)) fun x44_2 h => wS fs out b o4_23_1 (upd (upd (upd t 42 x42_0) 43 x43_1) 44 x44_2) h R) := by kernel_rfl
def c4_23 : ACode := .region (o4_23.map (·.2)) [0, 1, 2, 3, 4, 5, 6, 7, 8] []
theorem s4_23 (h : wS fs out s.h.nx o4_23 s.t ⟨s.h.o, s.h.nx + 9⟩ (Q .normal)) : wC fs out c4_23 s Q := wC_region rfl rfl h
def o4_26 : List (Nat × AOper) := (0, ⟨some 2, .mov (.k (.v (.one (.bool false)))), none⟩) ::
   []
theorem h4_26 : wS fs out b o4_26 t h R = (wV fs out (b + 0) noT h (.mov (.k (.v (.one (.bool false))))) fun x2_0 h => R ⟨(upd t 2 x2_0), h⟩) := by kernel_rfl
def c4_26 : ACode := .region (o4_26.map (·.2)) [0] []
theorem s4_26 (h : wS fs out s.h.nx o4_26 s.t ⟨s.h.o, s.h.nx + 1⟩ (Q .normal)) : wC fs out c4_26 s Q := wC_region rfl rfl h
def c4_25 : ACode := .seq c4_26 .ret
theorem s4_25 (h : wS fs out s.h.nx o4_26 s.t ⟨s.h.o, s.h.nx + 1⟩ fun s1 => wC fs out .ret s1 Q) : wC fs out c4_25 s Q := wC_seq (s4_26 h)
def c4_24 : ACode := .cond (.t 50) c4_25 .skip [2, 3, 4, 5, 7]
theorem s4_24 (h : onC (s.t 50) (wC fs out c4_25 s fun e s1 => Q e (keepOnly [2, 3, 4, 5, 7] s1)) (Q .normal (keepOnly [2, 3, 4, 5, 7] s))) : wC fs out c4_24 s Q := wC_condC (by first | exact h | (simp only [wC_skip, wC_exit, wC_ret]; exact h))
def c4_22 : ACode := .seq c4_23 c4_24
theorem s4_22 (h : wS fs out s.h.nx o4_23 s.t ⟨s.h.o, s.h.nx + 9⟩ fun s1 => wC fs out c4_24 s1 Q) : wC fs out c4_22 s Q := wC_seq (s4_23 h)
def o4_29 : List (Nat × AOper) := (0, ⟨some 51, .mov (.t 3), none⟩) ::
   (1, ⟨some 52, .len (.t 51), none⟩) ::
   (2, ⟨some 53, .mov (.k (.v (.one (.int .i64 0)))), none⟩) ::
   []
theorem h4_29 : wS fs out b o4_29 t h R = (wV fs out (b + 0) noT h (.mov (.k (t 3))) fun x51_0 h => wV fs out (b + 1) noT h (.len (.k x51_0)) fun x52_1 h => wV fs out (b + 2) noT h (.mov (.k (.v (.one (.int .i64 0))))) fun x53_2 h => R ⟨(upd (upd (upd t 51 x51_0) 52 x52_1) 53 x53_2), h⟩) := by kernel_rfl
def c4_29 : ACode := .region (o4_29.map (·.2)) [0, 1, 2] []
theorem s4_29 (h : wS fs out s.h.nx o4_29 s.t ⟨s.h.o, s.h.nx + 3⟩ (Q .normal)) : wC fs out c4_29 s Q := wC_region rfl rfl h
def o4_33 : List (Nat × AOper) := (0, ⟨some 54, .bin .lss (.t 53) (.t 52), none⟩) ::
   []
theorem h4_33 : wS fs out b o4_33 t h R = (wV fs out (b + 0) noT h (.bin .lss (.k (t 53)) (.k (t 52))) fun x54_0 h => R ⟨(upd t 54 x54_0), h⟩) := by kernel_rfl
def c4_33 : ACode := .region (o4_33.map (·.2)) [0] []
theorem s4_33 (h : wS fs out s.h.nx o4_33 s.t ⟨s.h.o, s.h.nx + 1⟩ (Q .normal)) : wC fs out c4_33 s Q := wC_region rfl rfl h
def c4_35 : ACode := .cond (.t 54) .skip (.exit 2) [3, 4, 5, 7, 52, 53]
theorem s4_35 (h : onC (s.t 54) (Q .normal (keepOnly [3, 4, 5, 7, 52, 53] s)) (Q (.exit 2) (keepOnly [3, 4, 5, 7, 52, 53] s))) : wC fs out c4_35 s Q := wC_condC (by first | exact h | (simp only [wC_skip, wC_exit, wC_ret]; exact h))
def o4_39 : List (Nat × AOper) := (0, ⟨some 55, .mov (.t 53), none⟩) ::
   (1, ⟨some 10, .mov (.t 55), none⟩) ::
   []
theorem h4_39 : wS fs out b o4_39 t h R = (wV fs out (b + 0) noT h (.mov (.k (t 53))) fun x55_0 h => wV fs out (b + 1) noT h (.mov (.k x55_0)) fun x10_1 h => R ⟨(upd (upd t 55 x55_0) 10 x10_1), h⟩) := by kernel_rfl
def c4_39 : ACode := .region (o4_39.map (·.2)) [0, 1] []
theorem s4_39 (h : wS fs out s.h.nx o4_39 s.t ⟨s.h.o, s.h.nx + 2⟩ (Q .normal)) : wC fs out c4_39 s Q := wC_region rfl rfl h
def o4_41 : List (Nat × AOper) := (0, ⟨some 56, .mov (.t 7), none⟩) ::
   (1, ⟨some 57, .mov (.t 10), none⟩) ::
   (2, ⟨some 58, .iadr 1 (.t 56) (.t 57), none⟩) ::
   (3, ⟨some 59, .load none (.t 58), none⟩) ::
   (4, ⟨some 11, .mov (.t 59), none⟩) ::
   []
theorem h4_41 : wS fs out b o4_41 t h R = (wV fs out (b + 0) noT h (.mov (.k (t 7))) fun x56_0 h => wV fs out (b + 1) noT h (.mov (.k (t 10))) fun x57_1 h => wV fs out (b + 2) noT h (.iadr 1 (.k x56_0) (.k x57_1)) fun x58_2 h => wV fs out (b + 3) noT h (.load none (.k x58_2)) fun x59_3 h => wV fs out (b + 4) noT h (.mov (.k x59_3)) fun x11_4 h => R ⟨(upd (upd (upd (upd (upd t 56 x56_0) 57 x57_1) 58 x58_2) 59 x59_3) 11 x11_4), h⟩) := by kernel_rfl
def c4_41 : ACode := .region (o4_41.map (·.2)) [0, 1, 2, 3, 4] []
theorem s4_41 (h : wS fs out s.h.nx o4_41 s.t ⟨s.h.o, s.h.nx + 5⟩ (Q .normal)) : wC fs out c4_41 s Q := wC_region rfl rfl h
def o4_44 : List (Nat × AOper) := (0, ⟨some 60, .mov (.t 5), none⟩) ::
   (1, ⟨some 61, .len (.t 60), none⟩) ::
   (2, ⟨some 62, .mov (.k (.v (.one (.int .i64 0)))), none⟩) ::
   []
theorem h4_44 : wS fs out b o4_44 t h R = (wV fs out (b + 0) noT h (.mov (.k (t 5))) fun x60_0 h => wV fs out (b + 1) noT h (.len (.k x60_0)) fun x61_1 h => wV fs out (b + 2) noT h (.mov (.k (.v (.one (.int .i64 0))))) fun x62_2 h => R ⟨(upd (upd (upd t 60 x60_0) 61 x61_1) 62 x62_2), h⟩) := by kernel_rfl
def c4_44 : ACode := .region (o4_44.map (·.2)) [0, 1, 2] []
theorem s4_44 (h : wS fs out s.h.nx o4_44 s.t ⟨s.h.o, s.h.nx + 3⟩ (Q .normal)) : wC fs out c4_44 s Q := wC_region rfl rfl h
def o4_48 : List (Nat × AOper) := (0, ⟨some 63, .bin .lss (.t 62) (.t 61), none⟩) ::
   []
theorem h4_48 : wS fs out b o4_48 t h R = (wV fs out (b + 0) noT h (.bin .lss (.k (t 62)) (.k (t 61))) fun x63_0 h => R ⟨(upd t 63 x63_0), h⟩) := by kernel_rfl
def c4_48 : ACode := .region (o4_48.map (·.2)) [0] []
theorem s4_48 (h : wS fs out s.h.nx o4_48 s.t ⟨s.h.o, s.h.nx + 1⟩ (Q .normal)) : wC fs out c4_48 s Q := wC_region rfl rfl h
def c4_50 : ACode := .cond (.t 63) .skip (.exit 4) [3, 4, 5, 7, 10, 11, 52, 53, 60, 61, 62]
theorem s4_50 (h : onC (s.t 63) (Q .normal (keepOnly [3, 4, 5, 7, 10, 11, 52, 53, 60, 61, 62] s)) (Q (.exit 4) (keepOnly [3, 4, 5, 7, 10, 11, 52, 53, 60, 61, 62] s))) : wC fs out c4_50 s Q := wC_condC (by first | exact h | (simp only [wC_skip, wC_exit, wC_ret]; exact h))
def o4_54 : List (Nat × AOper) := (0, ⟨some 64, .iadr 2 (.t 60) (.t 62), none⟩) ::
   (1, ⟨some 65, .load (some 2) (.t 64), none⟩) ::
   (2, ⟨some 13, .new 39 [(.int .i64 0), (.int .i64 0)], none⟩) ::
   (3, ⟨none, .store 2 (.t 13) (.t 65), none⟩) ::
   []
theorem h4_54 : wS fs out b o4_54 t h R = (wV fs out (b + 0) noT h (.iadr 2 (.k (t 60)) (.k (t 62))) fun x64_0 h => wV fs out (b + 1) noT h (.load (some 2) (.k x64_0)) fun x65_1 h => wV fs out (b + 2) noT h (.new 39 [(.int .i64 0), (.int .i64 0)]) fun x13_2 h => wV fs out (b + 3) noT h (.store 2 (.k x13_2) (.k x65_1)) fun _ h => R ⟨(upd (upd (upd t 64 x64_0) 65 x65_1) 13 x13_2), h⟩) := by kernel_rfl
def c4_54 : ACode := .region (o4_54.map (·.2)) [0, 1, 2, 3] []
theorem s4_54 (h : wS fs out s.h.nx o4_54 s.t ⟨s.h.o, s.h.nx + 4⟩ (Q .normal)) : wC fs out c4_54 s Q := wC_region rfl rfl h
def o4_56 : List (Nat × AOper) := (0, ⟨some 66, .fadr 0 (.t 13), none⟩) ::
   (1, ⟨some 67, .load none (.t 66), none⟩) ::
   (2, ⟨some 68, .mov (.t 10), none⟩) ::
   (3, ⟨some 69, .bin .eql (.t 67) (.t 68), none⟩) ::
   []
theorem h4_56 : wS fs out b o4_56 t h R = (wV fs out (b + 0) noT h (.fadr 0 (.k (t 13))) fun x66_0 h => wV fs out (b + 1) noT h (.load none (.k x66_0)) fun x67_1 h => wV fs out (b + 2) noT h (.mov (.k (t 10))) fun x68_2 h => wV fs out (b + 3) noT h (.bin .eql (.k x67_1) (.k x68_2)) fun x69_3 h => R ⟨(upd (upd (upd (upd t 66 x66_0) 67 x67_1) 68 x68_2) 69 x69_3), h⟩) := by kernel_rfl
def c4_56 : ACode := .region (o4_56.map (·.2)) [0, 1, 2, 3] []
theorem s4_56 (h : wS fs out s.h.nx o4_56 s.t ⟨s.h.o, s.h.nx + 4⟩ (Q .normal)) : wC fs out c4_56 s Q := wC_region rfl rfl h
def o4_58 : List (Nat × AOper) := (0, ⟨some 70, .mov (.t 11), none⟩) ::
   (1, ⟨some 71, .fadr 1 (.t 13), none⟩) ::
   (2, ⟨some 72, .load none (.t 71), none⟩) ::
   (3, ⟨some 73, .bin .sub (.t 70) (.t 72), none⟩) ::
   (4, ⟨some 11, .mov (.t 73), none⟩) ::
   []
theorem h4_58 : wS fs out b o4_58 t h R = (wV fs out (b + 0) noT h (.mov (.k (t 11))) fun x70_0 h => wV fs out (b + 1) noT h (.fadr 1 (.k (t 13))) fun x71_1 h => wV fs out (b + 2) noT h (.load none (.k x71_1)) fun x72_2 h => wV fs out (b + 3) noT h (.bin .sub (.k x70_0) (.k x72_2)) fun x73_3 h => wV fs out (b + 4) noT h (.mov (.k x73_3)) fun x11_4 h => R ⟨(upd (upd (upd (upd (upd t 70 x70_0) 71 x71_1) 72 x72_2) 73 x73_3) 11 x11_4), h⟩) := by kernel_rfl
def c4_58 : ACode := .region (o4_58.map (·.2)) [0, 1, 2, 3, 4] []
theorem s4_58 (h : wS fs out s.h.nx o4_58 s.t ⟨s.h.o, s.h.nx + 5⟩ (Q .normal)) : wC fs out c4_58 s Q := wC_region rfl rfl h
def c4_57 : ACode := .cond (.t 69) c4_58 .skip [3, 4, 5, 7, 10, 11, 52, 53, 60, 61, 62]
theorem s4_57 (h : onC (s.t 69) (wC fs out c4_58 s fun e s1 => Q e (keepOnly [3, 4, 5, 7, 10, 11, 52, 53, 60, 61, 62] s1)) (Q .normal (keepOnly [3, 4, 5, 7, 10, 11, 52, 53, 60, 61, 62] s))) : wC fs out c4_57 s Q := wC_condC (by first | exact h | (simp only [wC_skip, wC_exit, wC_ret]; exact h))
def c4_55 : ACode := .seq c4_56 c4_57
theorem s4_55 (h : wS fs out s.h.nx o4_56 s.t ⟨s.h.o, s.h.nx + 4⟩ fun s1 => wC fs out c4_57 s1 Q) : wC fs out c4_55 s Q := wC_seq (s4_56 h)
def c4_53 : ACode := .seq c4_54 c4_55
theorem s4_53 (h : wS fs out s.h.nx o4_54 s.t ⟨s.h.o, s.h.nx + 4⟩ fun s1 => wC fs out c4_55 s1 Q) : wC fs out c4_53 s Q := wC_seq (s4_54 h)
def c4_52 : ACode := .block 5 c4_53
theorem s4_52 (h : wC fs out c4_53 s fun e s1 => Q (if e = .exit 5 then .normal else e) s1) : wC fs out c4_52 s Q := wC_block h
def o4_59 : List (Nat × AOper) := (0, ⟨some 74, .bin .add (.t 62) (.k (.v (.one (.int .i64 1)))), none⟩) ::
   (1, ⟨some 62, .mov (.t 74), none⟩) ::
   []
theorem h4_59 : wS fs out b o4_59 t h R = (wV fs out (b + 0) noT h (.bin .add (.k (t 62)) (.k (.v (.one (.int .i64 1))))) fun x74_0 h => wV fs out (b + 1) noT h (.mov (.k x74_0)) fun x62_1 h => R ⟨(upd (upd t 74 x74_0) 62 x62_1), h⟩) := by kernel_rfl
def c4_59 : ACode := .region (o4_59.map (·.2)) [0, 1] []
theorem s4_59 (h : wS fs out s.h.nx o4_59 s.t ⟨s.h.o, s.h.nx + 2⟩ (Q .normal)) : wC fs out c4_59 s Q := wC_region rfl rfl h
def c4_51 : ACode := .seq c4_52 c4_59
theorem s4_51 (h : wC fs out c4_52 s fun e s1 => match e with | .normal => wC fs out c4_59 s1 Q | e => Q e s1) : wC fs out c4_51 s Q := wC_seq h
def c4_49 : ACode := .seq c4_50 c4_51
theorem s4_49 (h : onC (s.t 63) (wC fs out c4_51 (keepOnly [3, 4, 5, 7, 10, 11, 52, 53, 60, 61, 62] s) Q) (Q (.exit 4) (keepOnly [3, 4, 5, 7, 10, 11, 52, 53, 60, 61, 62] s))) : wC fs out c4_49 s Q := wC_seq (s4_50 h)
def c4_47 : ACode := .seq c4_48 c4_49
theorem s4_47 (h : wS fs out s.h.nx o4_48 s.t ⟨s.h.o, s.h.nx + 1⟩ fun s1 => wC fs out c4_49 s1 Q) : wC fs out c4_47 s Q := wC_seq (s4_48 h)
def c4_46 : ACode := .loop [3, 4, 5, 7, 10, 11, 52, 53, 60, 61, 62] c4_47
theorem s4_46 (I : Nat → St → Prop) (n : Nat) (h0 : I n (keepOnly [3, 4, 5, 7, 10, 11, 52, 53, 60, 61, 62] s)) (step : ∀ m s (Q' : AExit → St → Prop), I m s → (∀ m' s1, m' < m → I m' (keepOnly [3, 4, 5, 7, 10, 11, 52, 53, 60, 61, 62] s1) → Q' .normal s1) → (∀ i s1, Q (.exit i) s1 → Q' (.exit i) s1) → (∀ s1, Q .ret s1 → Q' .ret s1) → wC fs out c4_47 s Q') : wC fs out c4_46 s Q := wC_loopQ I n h0 step
def c4_45 : ACode := .block 4 c4_46
theorem s4_45 (h : wC fs out c4_46 s fun e s1 => Q (if e = .exit 4 then .normal else e) s1) : wC fs out c4_45 s Q := wC_block h
def c4_43 : ACode := .seq c4_44 c4_45
theorem s4_43 (h : wS fs out s.h.nx o4_44 s.t ⟨s.h.o, s.h.nx + 3⟩ fun s1 => wC fs out c4_45 s1 Q) : wC fs out c4_43 s Q := wC_seq (s4_44 h)
def o4_61 : List (Nat × AOper) := (0, ⟨some 14, .mov (.k (.v (.one (.bool false)))), none⟩) ::
   (1, ⟨some 15, .mov (.k (.v (.one (.bool false)))), none⟩) ::
   []
theorem h4_61 : wS fs out b o4_61 t h R = (wV fs out (b + 0) noT h (.mov (.k (.v (.one (.bool false))))) fun x14_0 h => wV fs out (b + 1) noT h (.mov (.k (.v (.one (.bool false))))) fun x15_1 h => R ⟨(upd (upd t 14 x14_0) 15 x15_1), h⟩) := by kernel_rfl
def c4_61 : ACode := .region (o4_61.map (·.2)) [0, 1] []
theorem s4_61 (h : wS fs out s.h.nx o4_61 s.t ⟨s.h.o, s.h.nx + 2⟩ (Q .normal)) : wC fs out c4_61 s Q := wC_region rfl rfl h
def o4_64 : List (Nat × AOper) := (0, ⟨some 75, .mov (.t 4), none⟩) ::
   (1, ⟨some 76, .len (.t 75), none⟩) ::
   (2, ⟨some 77, .mov (.k (.v (.one (.int .i64 0)))), none⟩) ::
   []
theorem h4_64 : wS fs out b o4_64 t h R = (wV fs out (b + 0) noT h (.mov (.k (t 4))) fun x75_0 h => wV fs out (b + 1) noT h (.len (.k x75_0)) fun x76_1 h => wV fs out (b + 2) noT h (.mov (.k (.v (.one (.int .i64 0))))) fun x77_2 h => R ⟨(upd (upd (upd t 75 x75_0) 76 x76_1) 77 x77_2), h⟩) := by kernel_rfl
def c4_64 : ACode := .region (o4_64.map (·.2)) [0, 1, 2] []
theorem s4_64 (h : wS fs out s.h.nx o4_64 s.t ⟨s.h.o, s.h.nx + 3⟩ (Q .normal)) : wC fs out c4_64 s Q := wC_region rfl rfl h
def o4_68 : List (Nat × AOper) := (0, ⟨some 78, .bin .lss (.t 77) (.t 76), none⟩) ::
   []
theorem h4_68 : wS fs out b o4_68 t h R = (wV fs out (b + 0) noT h (.bin .lss (.k (t 77)) (.k (t 76))) fun x78_0 h => R ⟨(upd t 78 x78_0), h⟩) := by kernel_rfl
def c4_68 : ACode := .region (o4_68.map (·.2)) [0] []
theorem s4_68 (h : wS fs out s.h.nx o4_68 s.t ⟨s.h.o, s.h.nx + 1⟩ (Q .normal)) : wC fs out c4_68 s Q := wC_region rfl rfl h
def c4_70 : ACode := .cond (.t 78) .skip (.exit 6) [3, 4, 5, 7, 10, 11, 14, 15, 52, 53, 75, 76, 77]
theorem s4_70 (h : onC (s.t 78) (Q .normal (keepOnly [3, 4, 5, 7, 10, 11, 14, 15, 52, 53, 75, 76, 77] s)) (Q (.exit 6) (keepOnly [3, 4, 5, 7, 10, 11, 14, 15, 52, 53, 75, 76, 77] s))) : wC fs out c4_70 s Q := wC_condC (by first | exact h | (simp only [wC_skip, wC_exit, wC_ret]; exact h))
def o4_74 : List (Nat × AOper) := (0, ⟨some 79, .iadr 4 (.t 75) (.t 77), none⟩) ::
   (1, ⟨some 80, .load (some 4) (.t 79), none⟩) ::
   (2, ⟨some 17, .new 35 [(.int .i64 0), (.int .i64 0), (.int .i64 0), (.int .i64 0)], none⟩) ::
   (3, ⟨none, .store 4 (.t 17) (.t 80), none⟩) ::
   []
theorem h4_74 : wS fs out b o4_74 t h R = (wV fs out (b + 0) noT h (.iadr 4 (.k (t 75)) (.k (t 77))) fun x79_0 h => wV fs out (b + 1) noT h (.load (some 4) (.k x79_0)) fun x80_1 h => wV fs out (b + 2) noT h (.new 35 [(.int .i64 0), (.int .i64 0), (.int .i64 0), (.int .i64 0)]) fun x17_2 h => wV fs out (b + 3) noT h (.store 4 (.k x17_2) (.k x80_1)) fun _ h => R ⟨(upd (upd (upd t 79 x79_0) 80 x80_1) 17 x17_2), h⟩) := by kernel_rfl
def c4_74 : ACode := .region (o4_74.map (·.2)) [0, 1, 2, 3] []
theorem s4_74 (h : wS fs out s.h.nx o4_74 s.t ⟨s.h.o, s.h.nx + 4⟩ (Q .normal)) : wC fs out c4_74 s Q := wC_region rfl rfl h
def o4_76 : List (Nat × AOper) := (0, ⟨some 81, .fadr 1 (.t 17), none⟩) ::
   (1, ⟨some 82, .load none (.t 81), none⟩) ::
   (2, ⟨some 83, .mov (.t 10), none⟩) ::
   (3, ⟨some 84, .bin .eql (.t 82) (.t 83), none⟩) ::
   []
theorem h4_76 : wS fs out b o4_76 t h R = (wV fs out (b + 0) noT h (.fadr 1 (.k (t 17))) fun x81_0 h => wV fs out (b + 1) noT h (.load none (.k x81_0)) fun x82_1 h => wV fs out (b + 2) noT h (.mov (.k (t 10))) fun x83_2 h => wV fs out (b + 3) noT h (.bin .eql (.k x82_1) (.k x83_2)) fun x84_3 h => R ⟨(upd (upd (upd (upd t 81 x81_0) 82 x82_1) 83 x83_2) 84 x84_3), h⟩) := by kernel_rfl
def c4_76 : ACode := .region (o4_76.map (·.2)) [0, 1, 2, 3] []
theorem s4_76 (h : wS fs out s.h.nx o4_76 s.t ⟨s.h.o, s.h.nx + 4⟩ (Q .normal)) : wC fs out c4_76 s Q := wC_region rfl rfl h
def o4_79 : List (Nat × AOper) := (0, ⟨some 14, .mov (.k (.v (.one (.bool true)))), none⟩) ::
   []
theorem h4_79 : wS fs out b o4_79 t h R = (wV fs out (b + 0) noT h (.mov (.k (.v (.one (.bool true))))) fun x14_0 h => R ⟨(upd t 14 x14_0), h⟩) := by kernel_rfl
def c4_79 : ACode := .region (o4_79.map (·.2)) [0] []
theorem s4_79 (h : wS fs out s.h.nx o4_79 s.t ⟨s.h.o, s.h.nx + 1⟩ (Q .normal)) : wC fs out c4_79 s Q := wC_region rfl rfl h
def o4_80_2 : List (Nat × AOper) := (12, ⟨some 97, .pick (.t 86) (.k (.v (.one (.bool true)))) (.t 96), none⟩) ::
   (13, ⟨some 15, .mov (.t 97), none⟩) ::
   []
theorem h4_80_2 : wS fs out b o4_80_2 t h R = (wV fs out (b + 12) noT h (.pick (.k (t 86)) (.k (.v (.one (.bool true)))) (.k (t 96))) fun x97_0 h => wV fs out (b + 13) noT h (.mov (.k x97_0)) fun x15_1 h => R ⟨(upd (upd t 97 x97_0) 15 x15_1), h⟩) := by kernel_rfl
def o4_80_1g : List (Nat × AOper) := (2, ⟨some 87, .mov (.t 11), none⟩) ::
   (3, ⟨some 88, .mov (.t 7), none⟩) ::
   (4, ⟨some 89, .fadr 0 (.t 17), none⟩) ::
   (5, ⟨some 90, .load none (.t 89), none⟩) ::
   (6, ⟨some 91, .iadr 1 (.t 88) (.t 90), none⟩) ::
   (7, ⟨some 92, .load none (.t 91), none⟩) ::
   (8, ⟨some 93, .fadr 2 (.t 17), none⟩) ::
   (9, ⟨some 94, .load none (.t 93), none⟩) ::
   (10, ⟨some 95, .bin .add (.t 92) (.t 94), none⟩) ::
   (11, ⟨some 96, .bin .eql (.t 87) (.t 95), none⟩) ::
   []
theorem h4_80_1g : wS fs out b o4_80_1g t h R = (wV fs out (b + 2) noT h (.mov (.k (t 11))) fun x87_0 h => wV fs out (b + 3) noT h (.mov (.k (t 7))) fun x88_1 h => wV fs out (b + 4) noT h (.fadr 0 (.k (t 17))) fun x89_2 h => wV fs out (b + 5) noT h (.load none (.k x89_2)) fun x90_3 h => wV fs out (b + 6) noT h (.iadr 1 (.k x88_1) (.k x90_3)) fun x91_4 h => wV fs out (b + 7) noT h (.load none (.k x91_4)) fun x92_5 h => wV fs out (b + 8) noT h (.fadr 2 (.k (t 17))) fun x93_6 h => wV fs out (b + 9) noT h (.load none (.k x93_6)) fun x94_7 h => wV fs out (b + 10) noT h (.bin .add (.k x92_5) (.k x94_7)) fun x95_8 h => wV fs out (b + 11) noT h (.bin .eql (.k x87_0) (.k x95_8)) fun x96_9 h => R ⟨(upd (upd (upd (upd (upd (upd (upd (upd (upd (upd t 87 x87_0) 88 x88_1) 89 x89_2) 90 x90_3) 91 x91_4) 92 x92_5) 93 x93_6) 94 x94_7) 95 x95_8) 96 x96_9), h⟩) := by kernel_rfl
def o4_80_1 : List (Nat × AOper) := grp 86 false o4_80_1g o4_80_2
theorem w4_80_1 : wS fs out b o4_80_1 t h R = onG (t 86) false (wS fs out b o4_80_1g (upd t 86 (.v (.one (.bool false)))) h fun s => wS fs out b o4_80_2 s.t s.h R) (wS fs out b o4_80_2 (upd (upd (upd (upd (upd (upd (upd (upd (upd (upd (upd t 86 (.v (.one (.bool true)))) 87 (.tup [])) 88 (.tup [])) 89 (.tup [])) 90 (.tup [])) 91 (.tup [])) 92 (.tup [])) 93 (.tup [])) 94 (.tup [])) 95 (.tup [])) 96 (.tup [])) h R) (wS fs out b o4_80_2 (upd (upd (upd (upd (upd (upd (upd (upd (upd (upd t 87 (.tup [])) 88 (.tup [])) 89 (.tup [])) 90 (.tup [])) 91 (.tup [])) 92 (.tup [])) 93 (.tup [])) 94 (.tup [])) 95 (.tup [])) 96 (.tup [])) h R) := wS_grpE rfl
def o4_80 : List (Nat × AOper) := (0, ⟨some 85, .mov (.t 15), none⟩) ::
   (1, ⟨some 86, .mov (.t 85), none⟩) ::
   o4_80_1
theorem h4_80 : wS fs out b o4_80 t h R = (wV fs out (b + 0) noT h (.mov (.k (t 15))) fun x85_0 h => wV fs out (b + 1) noT h (.mov (.k x85_0)) fun x86_1 h => wS fs out b o4_80_1 (upd (upd t 85 x85_0) 86 x86_1) h R) := by kernel_rfl
def c4_80 : ACode := .region (o4_80.map (·.2)) [0, 1, 2, 3, 4, 5, 6, 7, 8, 9, 10, 11, 12, 13] []
theorem s4_80 (h : wS fs out s.h.nx o4_80 s.t ⟨s.h.o, s.h.nx + 14⟩ (Q .normal)) : wC fs out c4_80 s Q := wC_region rfl rfl h
def c4_78 : ACode := .seq c4_79 c4_80
theorem s4_78 (h : wS fs out s.h.nx o4_79 s.t ⟨s.h.o, s.h.nx + 1⟩ fun s1 => wC fs out c4_80 s1 Q) : wC fs out c4_78 s Q := wC_seq (s4_79 h)
def c4_77 : ACode := .cond (.t 84) c4_78 .skip [3, 4, 5, 7, 10, 11, 14, 15, 52, 53, 75, 76, 77]
theorem s4_77 (h : onC (s.t 84) (wC fs out c4_78 s fun e s1 => Q e (keepOnly [3, 4, 5, 7, 10, 11, 14, 15, 52, 53, 75, 76, 77] s1)) (Q .normal (keepOnly [3, 4, 5, 7, 10, 11, 14, 15, 52, 53, 75, 76, 77] s))) : wC fs out c4_77 s Q := wC_condC (by first | exact h | (simp only [wC_skip, wC_exit, wC_ret]; exact h))
def c4_75 : ACode := .seq c4_76 c4_77
theorem s4_75 (h : wS fs out s.h.nx o4_76 s.t ⟨s.h.o, s.h.nx + 4⟩ fun s1 => wC fs out c4_77 s1 Q) : wC fs out c4_75 s Q := wC_seq (s4_76 h)
def c4_73 : ACode := .seq c4_74 c4_75
theorem s4_73 (h : wS fs out s.h.nx o4_74 s.t ⟨s.h.o, s.h.nx + 4⟩ fun s1 => wC fs out c4_75 s1 Q) : wC fs out c4_73 s Q := wC_seq (s4_74 h)
def c4_72 : ACode := .block 7 c4_73
theorem s4_72 (h : wC fs out c4_73 s fun e s1 => Q (if e = .exit 7 then .normal else e) s1) : wC fs out c4_72 s Q := wC_block h
def o4_81 : List (Nat × AOper) := (0, ⟨some 98, .bin .add (.t 77) (.k (.v (.one (.int .i64 1)))), none⟩) ::
   (1, ⟨some 77, .mov (.t 98), none⟩) ::
   []
theorem h4_81 : wS fs out b o4_81 t h R = (wV fs out (b + 0) noT h (.bin .add (.k (t 77)) (.k (.v (.one (.int .i64 1))))) fun x98_0 h => wV fs out (b + 1) noT h (.mov (.k x98_0)) fun x77_1 h => R ⟨(upd (upd t 98 x98_0) 77 x77_1), h⟩) := by kernel_rfl
def c4_81 : ACode := .region (o4_81.map (·.2)) [0, 1] []
theorem s4_81 (h : wS fs out s.h.nx o4_81 s.t ⟨s.h.o, s.h.nx + 2⟩ (Q .normal)) : wC fs out c4_81 s Q := wC_region rfl rfl h
def c4_71 : ACode := .seq c4_72 c4_81
theorem s4_71 (h : wC fs out c4_72 s fun e s1 => match e with | .normal => wC fs out c4_81 s1 Q | e => Q e s1) : wC fs out c4_71 s Q := wC_seq h
def c4_69 : ACode := .seq c4_70 c4_71
theorem s4_69 (h : onC (s.t 78) (wC fs out c4_71 (keepOnly [3, 4, 5, 7, 10, 11, 14, 15, 52, 53, 75, 76, 77] s) Q) (Q (.exit 6) (keepOnly [3, 4, 5, 7, 10, 11, 14, 15, 52, 53, 75, 76, 77] s))) : wC fs out c4_69 s Q := wC_seq (s4_70 h)
def c4_67 : ACode := .seq c4_68 c4_69
theorem s4_67 (h : wS fs out s.h.nx o4_68 s.t ⟨s.h.o, s.h.nx + 1⟩ fun s1 => wC fs out c4_69 s1 Q) : wC fs out c4_67 s Q := wC_seq (s4_68 h)
def c4_66 : ACode := .loop [3, 4, 5, 7, 10, 11, 14, 15, 52, 53, 75, 76, 77] c4_67
theorem s4_66 (I : Nat → St → Prop) (n : Nat) (h0 : I n (keepOnly [3, 4, 5, 7, 10, 11, 14, 15, 52, 53, 75, 76, 77] s)) (step : ∀ m s (Q' : AExit → St → Prop), I m s → (∀ m' s1, m' < m → I m' (keepOnly [3, 4, 5, 7, 10, 11, 14, 15, 52, 53, 75, 76, 77] s1) → Q' .normal s1) → (∀ i s1, Q (.exit i) s1 → Q' (.exit i) s1) → (∀ s1, Q .ret s1 → Q' .ret s1) → wC fs out c4_67 s Q') : wC fs out c4_66 s Q := wC_loopQ I n h0 step
def c4_65 : ACode := .block 6 c4_66
theorem s4_65 (h : wC fs out c4_66 s fun e s1 => Q (if e = .exit 6 then .normal else e) s1) : wC fs out c4_65 s Q := wC_block h
def c4_63 : ACode := .seq c4_64 c4_65
theorem s4_63 (h : wS fs out s.h.nx o4_64 s.t ⟨s.h.o, s.h.nx + 3⟩ fun s1 => wC fs out c4_65 s1 Q) : wC fs out c4_63 s Q := wC_seq (s4_64 h)
def o4_83_6 : List (Nat × AOper) := (21, ⟨some 120, .pick (.t 101) (.t 119) (.k (.v (.one (.bool false)))), none⟩) ::
   []
theorem h4_83_6 : wS fs out b o4_83_6 t h R = (wV fs out (b + 21) noT h (.pick (.k (t 101)) (.k (t 119)) (.k (.v (.one (.bool false))))) fun x120_0 h => R ⟨(upd t 120 x120_0), h⟩) := by kernel_rfl
def o4_83_5g : List (Nat × AOper) := (20, ⟨some 119, .pick (.t 109) (.k (.v (.one (.bool true)))) (.t 118), none⟩) ::
   []
theorem h4_83_5g : wS fs out b o4_83_5g t h R = (wV fs out (b + 20) noT h (.pick (.k (t 109)) (.k (.v (.one (.bool true)))) (.k (t 118))) fun x119_0 h => R ⟨(upd t 119 x119_0), h⟩) := by kernel_rfl
def o4_83_5 : List (Nat × AOper) := grp 101 true o4_83_5g o4_83_6
theorem w4_83_5 : wS fs out b o4_83_5 t h R = onG (t 101) true (wS fs out b o4_83_5g (upd t 101 (.v (.one (.bool true)))) h fun s => wS fs out b o4_83_6 s.t s.h R) (wS fs out b o4_83_6 (upd (upd t 101 (.v (.one (.bool false)))) 119 (.tup [])) h R) (wS fs out b o4_83_6 (upd t 119 (.tup [])) h R) := wS_grpE rfl
def o4_83_4g : List (Nat × AOper) := (19, ⟨some 118, .pick (.t 111) (.t 117) (.k (.v (.one (.bool false)))), none⟩) ::
   []
theorem h4_83_4g : wS fs out b o4_83_4g t h R = (wV fs out (b + 19) noT h (.pick (.k (t 111)) (.k (t 117)) (.k (.v (.one (.bool false))))) fun x118_0 h => R ⟨(upd t 118 x118_0), h⟩) := by kernel_rfl
def o4_83_4 : List (Nat × AOper) := grp 109 false o4_83_4g o4_83_5
theorem w4_83_4 : wS fs out b o4_83_4 t h R = onG (t 109) false (wS fs out b o4_83_4g (upd t 109 (.v (.one (.bool false)))) h fun s => wS fs out b o4_83_5 s.t s.h R) (wS fs out b o4_83_5 (upd (upd t 109 (.v (.one (.bool true)))) 118 (.tup [])) h R) (wS fs out b o4_83_5 (upd t 118 (.tup [])) h R) := wS_grpE rfl
def o4_83_3g : List (Nat × AOper) := (13, ⟨some 112, .mov (.t 3), none⟩) ::
   (14, ⟨some 113, .mov (.t 10), none⟩) ::
   (15, ⟨some 114, .iadr 2 (.t 112) (.t 113), none⟩) ::
   (16, ⟨some 115, .fadr 1 (.t 114), none⟩) ::
   (17, ⟨some 116, .load none (.t 115), none⟩) ::
   (18, ⟨some 117, .not (.t 116), none⟩) ::
   []
theorem h4_83_3g : wS fs out b o4_83_3g t h R = (wV fs out (b + 13) noT h (.mov (.k (t 3))) fun x112_0 h => wV fs out (b + 14) noT h (.mov (.k (t 10))) fun x113_1 h => wV fs out (b + 15) noT h (.iadr 2 (.k x112_0) (.k x113_1)) fun x114_2 h => wV fs out (b + 16) noT h (.fadr 1 (.k x114_2)) fun x115_3 h => wV fs out (b + 17) noT h (.load none (.k x115_3)) fun x116_4 h => wV fs out (b + 18) noT h (.not (.k x116_4)) fun x117_5 h => R ⟨(upd (upd (upd (upd (upd (upd t 112 x112_0) 113 x113_1) 114 x114_2) 115 x115_3) 116 x116_4) 117 x117_5), h⟩) := by kernel_rfl
def o4_83_3 : List (Nat × AOper) := grp 111 true o4_83_3g o4_83_4
theorem w4_83_3 : wS fs out b o4_83_3 t h R = onG (t 111) true (wS fs out b o4_83_3g (upd t 111 (.v (.one (.bool true)))) h fun s => wS fs out b o4_83_4 s.t s.h R) (wS fs out b o4_83_4 (upd (upd (upd (upd (upd (upd (upd t 111 (.v (.one (.bool false)))) 112 (.tup [])) 113 (.tup [])) 114 (.tup [])) 115 (.tup [])) 116 (.tup [])) 117 (.tup [])) h R) (wS fs out b o4_83_4 (upd (upd (upd (upd (upd (upd t 112 (.tup [])) 113 (.tup [])) 114 (.tup [])) 115 (.tup [])) 116 (.tup [])) 117 (.tup [])) h R) := wS_grpE rfl
def o4_83_2g : List (Nat × AOper) := (11, ⟨some 110, .mov (.t 14), none⟩) ::
   (12, ⟨some 111, .mov (.t 110), none⟩) ::
   []
theorem h4_83_2g : wS fs out b o4_83_2g t h R = (wV fs out (b + 11) noT h (.mov (.k (t 14))) fun x110_0 h => wV fs out (b + 12) noT h (.mov (.k x110_0)) fun x111_1 h => R ⟨(upd (upd t 110 x110_0) 111 x111_1), h⟩) := by kernel_rfl
def o4_83_2 : List (Nat × AOper) := grp 109 false o4_83_2g o4_83_3
theorem w4_83_2 : wS fs out b o4_83_2 t h R = onG (t 109) false (wS fs out b o4_83_2g (upd t 109 (.v (.one (.bool false)))) h fun s => wS fs out b o4_83_3 s.t s.h R) (wS fs out b o4_83_3 (upd (upd (upd t 109 (.v (.one (.bool true)))) 110 (.tup [])) 111 (.tup [])) h R) (wS fs out b o4_83_3 (upd (upd t 110 (.tup [])) 111 (.tup [])) h R) := wS_grpE rfl
def o4_83_1g : List (Nat × AOper) := (3, ⟨some 102, .mov (.t 11), none⟩) ::
   (4, ⟨some 103, .mov (.t 3), none⟩) ::
   (5, ⟨some 104, .mov (.t 10), none⟩) ::
   (6, ⟨some 105, .iadr 2 (.t 103) (.t 104), none⟩) ::
   (7, ⟨some 106, .fadr 0 (.t 105), none⟩) ::
   (8, ⟨some 107, .load none (.t 106), none⟩) ::
   (9, ⟨some 108, .bin .neq (.t 102) (.t 107), none⟩) ::
   (10, ⟨some 109, .mov (.t 108), none⟩) ::
   []
theorem h4_83_1g : wS fs out b o4_83_1g t h R = (wV fs out (b + 3) noT h (.mov (.k (t 11))) fun x102_0 h => wV fs out (b + 4) noT h (.mov (.k (t 3))) fun x103_1 h => wV fs out (b + 5) noT h (.mov (.k (t 10))) fun x104_2 h => wV fs out (b + 6) noT h (.iadr 2 (.k x103_1) (.k x104_2)) fun x105_3 h => wV fs out (b + 7) noT h (.fadr 0 (.k x105_3)) fun x106_4 h => wV fs out (b + 8) noT h (.load none (.k x106_4)) fun x107_5 h => wV fs out (b + 9) noT h (.bin .neq (.k x102_0) (.k x107_5)) fun x108_6 h => wV fs out (b + 10) noT h (.mov (.k x108_6)) fun x109_7 h => R ⟨(upd (upd (upd (upd (upd (upd (upd (upd t 102 x102_0) 103 x103_1) 104 x104_2) 105 x105_3) 106 x106_4) 107 x107_5) 108 x108_6) 109 x109_7), h⟩) := by kernel_rfl
def o4_83_1 : List (Nat × AOper) := grp 101 true o4_83_1g o4_83_2
theorem w4_83_1 : wS fs out b o4_83_1 t h R = onG (t 101) true (wS fs out b o4_83_1g (upd t 101 (.v (.one (.bool true)))) h fun s => wS fs out b o4_83_2 s.t s.h R) (wS fs out b o4_83_2 (upd (upd (upd (upd (upd (upd (upd (upd (upd t 101 (.v (.one (.bool false)))) 102 (.tup [])) 103 (.tup [])) 104 (.tup [])) 105 (.tup [])) 106 (.tup [])) 107 (.tup [])) 108 (.tup [])) 109 (.tup [])) h R) (wS fs out b o4_83_2 (upd (upd (upd (upd (upd (upd (upd (upd t 102 (.tup [])) 103 (.tup [])) 104 (.tup [])) 105 (.tup [])) 106 (.tup [])) 107 (.tup [])) 108 (.tup [])) 109 (.tup [])) h R) := wS_grpE rfl
def o4_83 : List (Nat × AOper) := (0, ⟨some 99, .mov (.t 15), none⟩) ::
   (1, ⟨some 100, .not (.t 99), none⟩) ::
   (2, ⟨some 101, .mov (.t 100), none⟩) ::
   o4_83_1
theorem h4_83 : wS fs out b o4_83 t h R = (wV fs out (b + 0) noT h (.mov (.k (t 15))) fun x99_0 h => wV fs out (b + 1) noT h (.not (.k x99_0)) fun x100_1 h => wV fs out (b + 2) noT h (.mov (.k x100_1)) fun x101_2 h => wS fs out b o4_83_1 (upd (upd (upd t 99 x99_0) 100 x100_1) 101 x101_2) h R) := by kernel_rfl
def c4_83 : ACode := .region (o4_83.map (·.2)) [0, 1, 2, 3, 4, 5, 6, 7, 8, 9, 10, 11, 12, 13, 14, 15, 16, 17, 18, 19, 20, 21] []
theorem s4_83 (h : wS fs out s.h.nx o4_83 s.t ⟨s.h.o, s.h.nx + 22⟩ (Q .normal)) : wC fs out c4_83 s Q := wC_region rfl rfl h
def o4_86 : List (Nat × AOper) := (0, ⟨some 2, .mov (.k (.v (.one (.bool false)))), none⟩) ::
   []
theorem h4_86 : wS fs out b o4_86 t h R = (wV fs out (b + 0) noT h (.mov (.k (.v (.one (.bool false))))) fun x2_0 h => R ⟨(upd t 2 x2_0), h⟩) := by kernel_rfl
def c4_86 : ACode := .region (o4_86.map (·.2)) [0] []
theorem s4_86 (h : wS fs out s.h.nx o4_86 s.t ⟨s.h.o, s.h.nx + 1⟩ (Q .normal)) : wC fs out c4_86 s Q := wC_region rfl rfl h
def c4_85 : ACode := .seq c4_86 .ret
theorem s4_85 (h : wS fs out s.h.nx o4_86 s.t ⟨s.h.o, s.h.nx + 1⟩ fun s1 => wC fs out .ret s1 Q) : wC fs out c4_85 s Q := wC_seq (s4_86 h)
def c4_84 : ACode := .cond (.t 120) c4_85 .skip [2, 3, 4, 5, 7, 52, 53]
theorem s4_84 (h : onC (s.t 120) (wC fs out c4_85 s fun e s1 => Q e (keepOnly [2, 3, 4, 5, 7, 52, 53] s1)) (Q .normal (keepOnly [2, 3, 4, 5, 7, 52, 53] s))) : wC fs out c4_84 s Q := wC_condC (by first | exact h | (simp only [wC_skip, wC_exit, wC_ret]; exact h))
def c4_82 : ACode := .seq c4_83 c4_84
theorem s4_82 (h : wS fs out s.h.nx o4_83 s.t ⟨s.h.o, s.h.nx + 22⟩ fun s1 => wC fs out c4_84 s1 Q) : wC fs out c4_82 s Q := wC_seq (s4_83 h)
def c4_62 : ACode := .seq c4_63 c4_82
theorem s4_62 (h : wC fs out c4_63 s fun e s1 => match e with | .normal => wC fs out c4_82 s1 Q | e => Q e s1) : wC fs out c4_62 s Q := wC_seq h
def c4_60 : ACode := .seq c4_61 c4_62
theorem s4_60 (h : wS fs out s.h.nx o4_61 s.t ⟨s.h.o, s.h.nx + 2⟩ fun s1 => wC fs out c4_62 s1 Q) : wC fs out c4_60 s Q := wC_seq (s4_61 h)
def c4_42 : ACode := .seq c4_43 c4_60
theorem s4_42 (h : wC fs out c4_43 s fun e s1 => match e with | .normal => wC fs out c4_60 s1 Q | e => Q e s1) : wC fs out c4_42 s Q := wC_seq h
def c4_40 : ACode := .seq c4_41 c4_42
theorem s4_40 (h : wS fs out s.h.nx o4_41 s.t ⟨s.h.o, s.h.nx + 5⟩ fun s1 => wC fs out c4_42 s1 Q) : wC fs out c4_40 s Q := wC_seq (s4_41 h)
def c4_38 : ACode := .seq c4_39 c4_40
theorem s4_38 (h : wS fs out s.h.nx o4_39 s.t ⟨s.h.o, s.h.nx + 2⟩ fun s1 => wC fs out c4_40 s1 Q) : wC fs out c4_38 s Q := wC_seq (s4_39 h)
def c4_37 : ACode := .block 3 c4_38
theorem s4_37 (h : wC fs out c4_38 s fun e s1 => Q (if e = .exit 3 then .normal else e) s1) : wC fs out c4_37 s Q := wC_block h
def o4_87 : List (Nat × AOper) := (0, ⟨some 121, .bin .add (.t 53) (.k (.v (.one (.int .i64 1)))), none⟩) ::
   (1, ⟨some 53, .mov (.t 121), none⟩) ::
   []
theorem h4_87 : wS fs out b o4_87 t h R = (wV fs out (b + 0) noT h (.bin .add (.k (t 53)) (.k (.v (.one (.int .i64 1))))) fun x121_0 h => wV fs out (b + 1) noT h (.mov (.k x121_0)) fun x53_1 h => R ⟨(upd (upd t 121 x121_0) 53 x53_1), h⟩) := by kernel_rfl
def c4_87 : ACode := .region (o4_87.map (·.2)) [0, 1] []
theorem s4_87 (h : wS fs out s.h.nx o4_87 s.t ⟨s.h.o, s.h.nx + 2⟩ (Q .normal)) : wC fs out c4_87 s Q := wC_region rfl rfl h
def c4_36 : ACode := .seq c4_37 c4_87
theorem s4_36 (h : wC fs out c4_37 s fun e s1 => match e with | .normal => wC fs out c4_87 s1 Q | e => Q e s1) : wC fs out c4_36 s Q := wC_seq h
def c4_34 : ACode := .seq c4_35 c4_36
theorem s4_34 (h : onC (s.t 54) (wC fs out c4_36 (keepOnly [3, 4, 5, 7, 52, 53] s) Q) (Q (.exit 2) (keepOnly [3, 4, 5, 7, 52, 53] s))) : wC fs out c4_34 s Q := wC_seq (s4_35 h)
def c4_32 : ACode := .seq c4_33 c4_34
theorem s4_32 (h : wS fs out s.h.nx o4_33 s.t ⟨s.h.o, s.h.nx + 1⟩ fun s1 => wC fs out c4_34 s1 Q) : wC fs out c4_32 s Q := wC_seq (s4_33 h)
def c4_31 : ACode := .loop [3, 4, 5, 7, 52, 53] c4_32
theorem s4_31 (I : Nat → St → Prop) (n : Nat) (h0 : I n (keepOnly [3, 4, 5, 7, 52, 53] s)) (step : ∀ m s (Q' : AExit → St → Prop), I m s → (∀ m' s1, m' < m → I m' (keepOnly [3, 4, 5, 7, 52, 53] s1) → Q' .normal s1) → (∀ i s1, Q (.exit i) s1 → Q' (.exit i) s1) → (∀ s1, Q .ret s1 → Q' .ret s1) → wC fs out c4_32 s Q') : wC fs out c4_31 s Q := wC_loopQ I n h0 step
def c4_30 : ACode := .block 2 c4_31
theorem s4_30 (h : wC fs out c4_31 s fun e s1 => Q (if e = .exit 2 then .normal else e) s1) : wC fs out c4_30 s Q := wC_block h
def c4_28 : ACode := .seq c4_29 c4_30
theorem s4_28 (h : wS fs out s.h.nx o4_29 s.t ⟨s.h.o, s.h.nx + 3⟩ fun s1 => wC fs out c4_30 s1 Q) : wC fs out c4_28 s Q := wC_seq (s4_29 h)
def o4_89_1 : List (Nat × AOper) := (1, ⟨some 2, .mov (.t 122), none⟩) ::
   []
theorem h4_89_1 : wS fs out b o4_89_1 t h R = (wV fs out (b + 1) noT h (.mov (.k (t 122))) fun x2_0 h => R ⟨(upd t 2 x2_0), h⟩) := by kernel_rfl
def o4_89 : List (Nat × AOper) := (0, ⟨some 122, .call 14 [], none⟩) ::
   o4_89_1
theorem h4_89 : wS fs out b o4_89 t h R = (wV fs out (b + 0) noT h (.call 14 []) fun x122_0 h => wS fs out b o4_89_1 (upd t 122 x122_0) h R) := by kernel_rfl
def c4_89 : ACode := .region (o4_89.map (·.2)) [0, 1] []
theorem s4_89 (h : wS fs out s.h.nx o4_89 s.t ⟨s.h.o, s.h.nx + 2⟩ (Q .normal)) : wC fs out c4_89 s Q := wC_region rfl rfl h
def c4_88 : ACode := .seq c4_89 .ret
theorem s4_88 (h : wS fs out s.h.nx o4_89 s.t ⟨s.h.o, s.h.nx + 2⟩ fun s1 => wC fs out .ret s1 Q) : wC fs out c4_88 s Q := wC_seq (s4_89 h)
def c4_27 : ACode := .seq c4_28 c4_88
theorem s4_27 (h : wC fs out c4_28 s fun e s1 => match e with | .normal => wC fs out c4_88 s1 Q | e => Q e s1) : wC fs out c4_27 s Q := wC_seq h
def c4_21 : ACode := .seq c4_22 c4_27
theorem s4_21 (h : wC fs out c4_22 s fun e s1 => match e with | .normal => wC fs out c4_27 s1 Q | e => Q e s1) : wC fs out c4_21 s Q := wC_seq h
def c4_19 : ACode := .seq c4_20 c4_21
theorem s4_19 (h : wS fs out s.h.nx o4_20 s.t ⟨s.h.o, s.h.nx + 11⟩ fun s1 => wC fs out c4_21 s1 Q) : wC fs out c4_19 s Q := wC_seq (s4_20 h)
def c4_4 : ACode := .seq c4_5 c4_19
theorem s4_4 (h : wC fs out c4_5 s fun e s1 => match e with | .normal => wC fs out c4_19 s1 Q | e => Q e s1) : wC fs out c4_4 s Q := wC_seq h
def c4_2 : ACode := .seq c4_3 c4_4
theorem s4_2 (h : wS fs out s.h.nx o4_3 s.t ⟨s.h.o, s.h.nx + 9⟩ fun s1 => wC fs out c4_4 s1 Q) : wC fs out c4_2 s Q := wC_seq (s4_3 h)
def c4_0 : ACode := .seq c4_1 c4_2
theorem s4_0 (h : wS fs out s.h.nx o4_1 s.t ⟨s.h.o, s.h.nx + 1⟩ fun s1 => wC fs out c4_2 s1 Q) : wC fs out c4_0 s Q := wC_seq (s4_1 h)
def a4 : AFunc := ⟨1, [2], none, c4_0⟩
theorem t4 : tell Try.prog Try.f4 [([3, 4, 5, 25, 26], [], []), ([3, 4, 5, 25, 26], [], []), ([2, 3, 4, 5, 7], [], []), ([3, 4, 5, 7, 52, 53], [], []), ([3, 4, 5, 7, 52, 53], [], []), ([3, 4, 5, 7, 10, 11, 52, 53, 60, 61, 62], [], []), ([3, 4, 5, 7, 10, 11, 52, 53, 60, 61, 62], [], []), ([3, 4, 5, 7, 10, 11, 52, 53, 60, 61, 62], [], []), ([3, 4, 5, 7, 10, 11, 14, 15, 52, 53, 75, 76, 77], [], []), ([3, 4, 5, 7, 10, 11, 14, 15, 52, 53, 75, 76, 77], [], []), ([3, 4, 5, 7, 10, 11, 14, 15, 52, 53, 75, 76, 77], [], []), ([0, 1, 2, 3, 4, 5, 6, 7, 8, 9, 10, 11, 12, 13], [], [0, 1, 3, 3, 3, 19, 59, 123, 3, 259, 1019, 2047, 4095, 8191]), ([2, 3, 4, 5, 7, 52, 53], [], [])] = some a4 := by kernel_rfl
theorem ok4 : FuncOk Try.prog 4 a4 := tell_ok Try.func4 t4

end
def fl4 (f : Nat) : Option AFunc := if f = 4 then some a4 else fs f
theorem fl4_ok : ∀ f fn, fl4 f = some fn → FuncOk Try.prog f fn := by
  intro f fn h
  unfold fl4 at h
  split at h
  · rename_i hf; subst hf; cases h; exact ok4
  · exact fs_ok f fn h
theorem fs4 : fl4 4 = some a4 := by simp [fl4]
theorem lift4 {f : Nat} {args : List T} {h : AH} {Q : T → AH → Prop} (hw : wF fs out f args h Q) : wF fl4 out f args h Q := by
  refine wF_ext (fun f fn hf => ?_) (fun f hf hf' args h => ?_) hw
  · unfold fl4; rw [if_neg (fun e => by subst e; cases hf)]; exact hf
  · unfold fl4 at hf'; split at hf'
    · rename_i e; subst e; cases args <;> rfl
    · exact absurd hf hf'
end Go.Proofs.Ythoicdnlcnppgaa.Fn
