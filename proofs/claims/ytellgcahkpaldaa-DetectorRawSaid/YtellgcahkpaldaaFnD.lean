/- Functions of the program, as the abstract machine's, and that they are. Conditions: none. -/
import Derived.Test.YtellgcahkpaldaaAmCo
import Derived.Test.YtellgcahkpaldaaAmEv
import Derived.Test.YtellgcahkpaldaaProg
set_option linter.unusedVariables false
set_option linter.unusedSimpArgs false
namespace Go.Proofs.Ytellgcahkpaldaa.Fn
open Go Go.Am
set_option maxRecDepth 100000
variable {fs : Nat → Option AFunc} {out : Rec} {s : St} {Q : AExit → St → Prop} {b : Nat} {t : Nat → T} {h : AH} {R : St → Prop}
/-- railplan/detector.Run -/
def o23_1 : List (Nat × AOper) := (0, ⟨some 4, .mov (.k (.v (.one .nils))), none⟩) ::
   (1, ⟨some 5, .mov (.k (.v (.one (.int .i64 0)))), none⟩) ::
   []
theorem h23_1 : wS fs out b o23_1 t h R = (wV fs out (b + 0) noT h (.mov (.k (.v (.one .nils)))) fun x4_0 h => wV fs out (b + 1) noT h (.mov (.k (.v (.one (.int .i64 0))))) fun x5_1 h => R ⟨(upd (upd t 4 x4_0) 5 x5_1), h⟩) := by kernel_rfl
def c23_1 : ACode := .region (o23_1.map (·.2)) [0, 1] []
theorem s23_1 (h : wS fs out s.h.nx o23_1 s.t ⟨s.h.o, s.h.nx + 2⟩ (Q .normal)) : wC fs out c23_1 s Q := wC_region rfl rfl h
def o23_4_2 : List (Nat × AOper) := (5, ⟨some 17, .pick (.t 14) (.k (.v (.one (.bool true)))) (.t 16), none⟩) ::
   []
theorem h23_4_2 : wS fs out b o23_4_2 t h R = (wV fs out (b + 5) noT h (.pick (.k (t 14)) (.k (.v (.one (.bool true)))) (.k (t 16))) fun x17_0 h => R ⟨(upd t 17 x17_0), h⟩) := by kernel_rfl
def o23_4_1g : List (Nat × AOper) := (3, ⟨some 15, .mov (.t 0), none⟩) ::
   (4, ⟨some 16, .bin .gtr (.t 15) (.k (.v (.one (.int .i64 144)))), none⟩) ::
   []
theorem h23_4_1g : wS fs out b o23_4_1g t h R = (wV fs out (b + 3) noT h (.mov (.k (t 0))) fun x15_0 h => wV fs out (b + 4) noT h (.bin .gtr (.k x15_0) (.k (.v (.one (.int .i64 144))))) fun x16_1 h => R ⟨(upd (upd t 15 x15_0) 16 x16_1), h⟩) := by kernel_rfl
def o23_4_1 : List (Nat × AOper) := grp 14 false o23_4_1g o23_4_2
theorem w23_4_1 : wS fs out b o23_4_1 t h R = onG (t 14) false (wS fs out b o23_4_1g (upd t 14 (.v (.one (.bool false)))) h fun s => wS fs out b o23_4_2 s.t s.h R) (wS fs out b o23_4_2 (upd (upd (upd t 14 (.v (.one (.bool true)))) 15 (.tup [])) 16 (.tup [])) h R) (wS fs out b o23_4_2 (upd (upd t 15 (.tup [])) 16 (.tup [])) h R) := wS_grpE rfl
def o23_4 : List (Nat × AOper) := (0, ⟨some 12, .mov (.t 0), none⟩) ::
   (1, ⟨some 13, .bin .lss (.t 12) (.k (.v (.one (.int .i64 0)))), none⟩) ::
   (2, ⟨some 14, .mov (.t 13), none⟩) ::
   o23_4_1
theorem h23_4 : wS fs out b o23_4 t h R = (wV fs out (b + 0) noT h (.mov (.k (t 0))) fun x12_0 h => wV fs out (b + 1) noT h (.bin .lss (.k x12_0) (.k (.v (.one (.int .i64 0))))) fun x13_1 h => wV fs out (b + 2) noT h (.mov (.k x13_1)) fun x14_2 h => wS fs out b o23_4_1 (upd (upd (upd t 12 x12_0) 13 x13_1) 14 x14_2) h R) := by kernel_rfl
def c23_4 : ACode := .region (o23_4.map (·.2)) [0, 1, 2, 3, 4, 5] []
theorem s23_4 (h : wS fs out s.h.nx o23_4 s.t ⟨s.h.o, s.h.nx + 6⟩ (Q .normal)) : wC fs out c23_4 s Q := wC_region rfl rfl h
def o23_7 : List (Nat × AOper) := (0, ⟨some 4, .mov (.k (.v (.one .nils))), none⟩) ::
   (1, ⟨some 5, .mov (.k (.v (.one (.int .i64 4)))), none⟩) ::
   []
theorem h23_7 : wS fs out b o23_7 t h R = (wV fs out (b + 0) noT h (.mov (.k (.v (.one .nils)))) fun x4_0 h => wV fs out (b + 1) noT h (.mov (.k (.v (.one (.int .i64 4))))) fun x5_1 h => R ⟨(upd (upd t 4 x4_0) 5 x5_1), h⟩) := by kernel_rfl
def c23_7 : ACode := .region (o23_7.map (·.2)) [0, 1] []
theorem s23_7 (h : wS fs out s.h.nx o23_7 s.t ⟨s.h.o, s.h.nx + 2⟩ (Q .normal)) : wC fs out c23_7 s Q := wC_region rfl rfl h
def c23_6 : ACode := .seq c23_7 .ret
theorem s23_6 (h : wS fs out s.h.nx o23_7 s.t ⟨s.h.o, s.h.nx + 2⟩ fun s1 => wC fs out .ret s1 Q) : wC fs out c23_6 s Q := wC_seq (s23_7 h)
def c23_5 : ACode := .cond (.t 17) c23_6 .skip [0, 1, 4, 5]
theorem s23_5 (h : onC (s.t 17) (wC fs out c23_6 s fun e s1 => Q e (keepOnly [0, 1, 4, 5] s1)) (Q .normal (keepOnly [0, 1, 4, 5] s))) : wC fs out c23_5 s Q := wC_condC (by first | exact h | (simp only [wC_skip, wC_exit, wC_ret]; exact h))
def c23_3 : ACode := .seq c23_4 c23_5
theorem s23_3 (h : wS fs out s.h.nx o23_4 s.t ⟨s.h.o, s.h.nx + 6⟩ fun s1 => wC fs out c23_5 s1 Q) : wC fs out c23_3 s Q := wC_seq (s23_4 h)
def o23_10 : List (Nat × AOper) := (0, ⟨some 18, .mov (.t 1), none⟩) ::
   (1, ⟨some 19, .len (.t 18), none⟩) ::
   (2, ⟨some 20, .mov (.k (.v (.one (.int .i64 0)))), none⟩) ::
   []
theorem h23_10 : wS fs out b o23_10 t h R = (wV fs out (b + 0) noT h (.mov (.k (t 1))) fun x18_0 h => wV fs out (b + 1) noT h (.len (.k x18_0)) fun x19_1 h => wV fs out (b + 2) noT h (.mov (.k (.v (.one (.int .i64 0))))) fun x20_2 h => R ⟨(upd (upd (upd t 18 x18_0) 19 x19_1) 20 x20_2), h⟩) := by kernel_rfl
def c23_10 : ACode := .region (o23_10.map (·.2)) [0, 1, 2] []
theorem s23_10 (h : wS fs out s.h.nx o23_10 s.t ⟨s.h.o, s.h.nx + 3⟩ (Q .normal)) : wC fs out c23_10 s Q := wC_region rfl rfl h
def o23_14 : List (Nat × AOper) := (0, ⟨some 21, .bin .lss (.t 20) (.t 19), none⟩) ::
   []
theorem h23_14 : wS fs out b o23_14 t h R = (wV fs out (b + 0) noT h (.bin .lss (.k (t 20)) (.k (t 19))) fun x21_0 h => R ⟨(upd t 21 x21_0), h⟩) := by kernel_rfl
def c23_14 : ACode := .region (o23_14.map (·.2)) [0] []
theorem s23_14 (h : wS fs out s.h.nx o23_14 s.t ⟨s.h.o, s.h.nx + 1⟩ (Q .normal)) : wC fs out c23_14 s Q := wC_region rfl rfl h
def c23_16 : ACode := .cond (.t 21) .skip (.exit 0) [0, 1, 18, 19, 20]
theorem s23_16 (h : onC (s.t 21) (Q .normal (keepOnly [0, 1, 18, 19, 20] s)) (Q (.exit 0) (keepOnly [0, 1, 18, 19, 20] s))) : wC fs out c23_16 s Q := wC_condC (by first | exact h | (simp only [wC_skip, wC_exit, wC_ret]; exact h))
def o23_20 : List (Nat × AOper) := (0, ⟨some 22, .iadr 4 (.t 18) (.t 20), none⟩) ::
   (1, ⟨some 23, .load (some 4) (.t 22), none⟩) ::
   (2, ⟨some 7, .new 31 [(.int .i64 0), (.bool false), (.int .i64 0), (.int .i64 0)], none⟩) ::
   (3, ⟨none, .store 4 (.t 7) (.t 23), none⟩) ::
   []
theorem h23_20 : wS fs out b o23_20 t h R = (wV fs out (b + 0) noT h (.iadr 4 (.k (t 18)) (.k (t 20))) fun x22_0 h => wV fs out (b + 1) noT h (.load (some 4) (.k x22_0)) fun x23_1 h => wV fs out (b + 2) noT h (.new 31 [(.int .i64 0), (.bool false), (.int .i64 0), (.int .i64 0)]) fun x7_2 h => wV fs out (b + 3) noT h (.store 4 (.k x7_2) (.k x23_1)) fun _ h => R ⟨(upd (upd (upd t 22 x22_0) 23 x23_1) 7 x7_2), h⟩) := by kernel_rfl
def c23_20 : ACode := .region (o23_20.map (·.2)) [0, 1, 2, 3] []
theorem s23_20 (h : wS fs out s.h.nx o23_20 s.t ⟨s.h.o, s.h.nx + 4⟩ (Q .normal)) : wC fs out c23_20 s Q := wC_region rfl rfl h
def o23_22_2 : List (Nat × AOper) := (8, ⟨some 32, .pick (.t 27) (.k (.v (.one (.bool true)))) (.t 31), none⟩) ::
   []
theorem h23_22_2 : wS fs out b o23_22_2 t h R = (wV fs out (b + 8) noT h (.pick (.k (t 27)) (.k (.v (.one (.bool true)))) (.k (t 31))) fun x32_0 h => R ⟨(upd t 32 x32_0), h⟩) := by kernel_rfl
def o23_22_1g : List (Nat × AOper) := (4, ⟨some 28, .fadr 0 (.t 7), none⟩) ::
   (5, ⟨some 29, .load none (.t 28), none⟩) ::
   (6, ⟨some 30, .mov (.t 0), none⟩) ::
   (7, ⟨some 31, .bin .geq (.t 29) (.t 30), none⟩) ::
   []
theorem h23_22_1g : wS fs out b o23_22_1g t h R = (wV fs out (b + 4) noT h (.fadr 0 (.k (t 7))) fun x28_0 h => wV fs out (b + 5) noT h (.load none (.k x28_0)) fun x29_1 h => wV fs out (b + 6) noT h (.mov (.k (t 0))) fun x30_2 h => wV fs out (b + 7) noT h (.bin .geq (.k x29_1) (.k x30_2)) fun x31_3 h => R ⟨(upd (upd (upd (upd t 28 x28_0) 29 x29_1) 30 x30_2) 31 x31_3), h⟩) := by kernel_rfl
def o23_22_1 : List (Nat × AOper) := grp 27 false o23_22_1g o23_22_2
theorem w23_22_1 : wS fs out b o23_22_1 t h R = onG (t 27) false (wS fs out b o23_22_1g (upd t 27 (.v (.one (.bool false)))) h fun s => wS fs out b o23_22_2 s.t s.h R) (wS fs out b o23_22_2 (upd (upd (upd (upd (upd t 27 (.v (.one (.bool true)))) 28 (.tup [])) 29 (.tup [])) 30 (.tup [])) 31 (.tup [])) h R) (wS fs out b o23_22_2 (upd (upd (upd (upd t 28 (.tup [])) 29 (.tup [])) 30 (.tup [])) 31 (.tup [])) h R) := wS_grpE rfl
def o23_22 : List (Nat × AOper) := (0, ⟨some 24, .fadr 0 (.t 7), none⟩) ::
   (1, ⟨some 25, .load none (.t 24), none⟩) ::
   (2, ⟨some 26, .bin .lss (.t 25) (.k (.v (.one (.int .i64 0)))), none⟩) ::
   (3, ⟨some 27, .mov (.t 26), none⟩) ::
   o23_22_1
theorem h23_22 : wS fs out b o23_22 t h R = (wV fs out (b + 0) noT h (.fadr 0 (.k (t 7))) fun x24_0 h => wV fs out (b + 1) noT h (.load none (.k x24_0)) fun x25_1 h => wV fs out (b + 2) noT h (.bin .lss (.k x25_1) (.k (.v (.one (.int .i64 0))))) fun x26_2 h => wV fs out (b + 3) noT h (.mov (.k x26_2)) fun x27_3 h => wS fs out b o23_22_1 (upd (upd (upd (upd t 24 x24_0) 25 x25_1) 26 x26_2) 27 x27_3) h R) := by kernel_rfl
def c23_22 : ACode := .region (o23_22.map (·.2)) [0, 1, 2, 3, 4, 5, 6, 7, 8] []
theorem s23_22 (h : wS fs out s.h.nx o23_22 s.t ⟨s.h.o, s.h.nx + 9⟩ (Q .normal)) : wC fs out c23_22 s Q := wC_region rfl rfl h
def o23_25 : List (Nat × AOper) := (0, ⟨some 4, .mov (.k (.v (.one .nils))), none⟩) ::
   (1, ⟨some 5, .mov (.k (.v (.one (.int .i64 4)))), none⟩) ::
   []
theorem h23_25 : wS fs out b o23_25 t h R = (wV fs out (b + 0) noT h (.mov (.k (.v (.one .nils)))) fun x4_0 h => wV fs out (b + 1) noT h (.mov (.k (.v (.one (.int .i64 4))))) fun x5_1 h => R ⟨(upd (upd t 4 x4_0) 5 x5_1), h⟩) := by kernel_rfl
def c23_25 : ACode := .region (o23_25.map (·.2)) [0, 1] []
theorem s23_25 (h : wS fs out s.h.nx o23_25 s.t ⟨s.h.o, s.h.nx + 2⟩ (Q .normal)) : wC fs out c23_25 s Q := wC_region rfl rfl h
def c23_24 : ACode := .seq c23_25 .ret
theorem s23_24 (h : wS fs out s.h.nx o23_25 s.t ⟨s.h.o, s.h.nx + 2⟩ fun s1 => wC fs out .ret s1 Q) : wC fs out c23_24 s Q := wC_seq (s23_25 h)
def c23_23 : ACode := .cond (.t 32) c23_24 .skip [0, 1, 4, 5, 18, 19, 20]
theorem s23_23 (h : onC (s.t 32) (wC fs out c23_24 s fun e s1 => Q e (keepOnly [0, 1, 4, 5, 18, 19, 20] s1)) (Q .normal (keepOnly [0, 1, 4, 5, 18, 19, 20] s))) : wC fs out c23_23 s Q := wC_condC (by first | exact h | (simp only [wC_skip, wC_exit, wC_ret]; exact h))
def c23_21 : ACode := .seq c23_22 c23_23
theorem s23_21 (h : wS fs out s.h.nx o23_22 s.t ⟨s.h.o, s.h.nx + 9⟩ fun s1 => wC fs out c23_23 s1 Q) : wC fs out c23_21 s Q := wC_seq (s23_22 h)
def c23_19 : ACode := .seq c23_20 c23_21
theorem s23_19 (h : wS fs out s.h.nx o23_20 s.t ⟨s.h.o, s.h.nx + 4⟩ fun s1 => wC fs out c23_21 s1 Q) : wC fs out c23_19 s Q := wC_seq (s23_20 h)
def c23_18 : ACode := .block 1 c23_19
theorem s23_18 (h : wC fs out c23_19 s fun e s1 => Q (if e = .exit 1 then .normal else e) s1) : wC fs out c23_18 s Q := wC_block h
def o23_26 : List (Nat × AOper) := (0, ⟨some 33, .bin .add (.t 20) (.k (.v (.one (.int .i64 1)))), none⟩) ::
   (1, ⟨some 20, .mov (.t 33), none⟩) ::
   []
theorem h23_26 : wS fs out b o23_26 t h R = (wV fs out (b + 0) noT h (.bin .add (.k (t 20)) (.k (.v (.one (.int .i64 1))))) fun x33_0 h => wV fs out (b + 1) noT h (.mov (.k x33_0)) fun x20_1 h => R ⟨(upd (upd t 33 x33_0) 20 x20_1), h⟩) := by kernel_rfl
def c23_26 : ACode := .region (o23_26.map (·.2)) [0, 1] []
theorem s23_26 (h : wS fs out s.h.nx o23_26 s.t ⟨s.h.o, s.h.nx + 2⟩ (Q .normal)) : wC fs out c23_26 s Q := wC_region rfl rfl h
def c23_17 : ACode := .seq c23_18 c23_26
theorem s23_17 (h : wC fs out c23_18 s fun e s1 => match e with | .normal => wC fs out c23_26 s1 Q | e => Q e s1) : wC fs out c23_17 s Q := wC_seq h
def c23_15 : ACode := .seq c23_16 c23_17
theorem s23_15 (h : onC (s.t 21) (wC fs out c23_17 (keepOnly [0, 1, 18, 19, 20] s) Q) (Q (.exit 0) (keepOnly [0, 1, 18, 19, 20] s))) : wC fs out c23_15 s Q := wC_seq (s23_16 h)
def c23_13 : ACode := .seq c23_14 c23_15
theorem s23_13 (h : wS fs out s.h.nx o23_14 s.t ⟨s.h.o, s.h.nx + 1⟩ fun s1 => wC fs out c23_15 s1 Q) : wC fs out c23_13 s Q := wC_seq (s23_14 h)
def c23_12 : ACode := .loop [0, 1, 18, 19, 20] c23_13
theorem s23_12 (I : Nat → St → Prop) (n : Nat) (h0 : I n (keepOnly [0, 1, 18, 19, 20] s)) (step : ∀ m s (Q' : AExit → St → Prop), I m s → (∀ m' s1, m' < m → I m' (keepOnly [0, 1, 18, 19, 20] s1) → Q' .normal s1) → (∀ i s1, Q (.exit i) s1 → Q' (.exit i) s1) → (∀ s1, Q .ret s1 → Q' .ret s1) → wC fs out c23_13 s Q') : wC fs out c23_12 s Q := wC_loopQ I n h0 step
def c23_11 : ACode := .block 0 c23_12
theorem s23_11 (h : wC fs out c23_12 s fun e s1 => Q (if e = .exit 0 then .normal else e) s1) : wC fs out c23_11 s Q := wC_block h
def c23_9 : ACode := .seq c23_10 c23_11
theorem s23_9 (h : wS fs out s.h.nx o23_10 s.t ⟨s.h.o, s.h.nx + 3⟩ fun s1 => wC fs out c23_11 s1 Q) : wC fs out c23_9 s Q := wC_seq (s23_10 h)
def o23_28 : List (Nat × AOper) := (0, ⟨some 34, .mov (.t 0), none⟩) ::
   (1, ⟨some 35, .mks 26 3 24 [(.int .i64 0), (.int .i64 0), (.int .i64 0)] (.t 34) (.t 34), none⟩) ::
   (2, ⟨some 8, .mov (.t 35), none⟩) ::
   []
theorem h23_28 : wS fs out b o23_28 t h R = (wV fs out (b + 0) noT h (.mov (.k (t 0))) fun x34_0 h => wV fs out (b + 1) noT h (.mks 26 3 24 [(.int .i64 0), (.int .i64 0), (.int .i64 0)] (.k x34_0) (.k x34_0)) fun x35_1 h => wV fs out (b + 2) noT h (.mov (.k x35_1)) fun x8_2 h => R ⟨(upd (upd (upd t 34 x34_0) 35 x35_1) 8 x8_2), h⟩) := by kernel_rfl
def c23_28 : ACode := .region (o23_28.map (·.2)) [0, 1, 2] []
theorem s23_28 (h : wS fs out s.h.nx o23_28 s.t ⟨s.h.o, s.h.nx + 3⟩ (Q .normal)) : wC fs out c23_28 s Q := wC_region rfl rfl h
def o23_31 : List (Nat × AOper) := (0, ⟨some 36, .mov (.t 8), none⟩) ::
   (1, ⟨some 37, .len (.t 36), none⟩) ::
   (2, ⟨some 38, .mov (.k (.v (.one (.int .i64 0)))), none⟩) ::
   []
theorem h23_31 : wS fs out b o23_31 t h R = (wV fs out (b + 0) noT h (.mov (.k (t 8))) fun x36_0 h => wV fs out (b + 1) noT h (.len (.k x36_0)) fun x37_1 h => wV fs out (b + 2) noT h (.mov (.k (.v (.one (.int .i64 0))))) fun x38_2 h => R ⟨(upd (upd (upd t 36 x36_0) 37 x37_1) 38 x38_2), h⟩) := by kernel_rfl
def c23_31 : ACode := .region (o23_31.map (·.2)) [0, 1, 2] []
theorem s23_31 (h : wS fs out s.h.nx o23_31 s.t ⟨s.h.o, s.h.nx + 3⟩ (Q .normal)) : wC fs out c23_31 s Q := wC_region rfl rfl h
def o23_35 : List (Nat × AOper) := (0, ⟨some 39, .bin .lss (.t 38) (.t 37), none⟩) ::
   []
theorem h23_35 : wS fs out b o23_35 t h R = (wV fs out (b + 0) noT h (.bin .lss (.k (t 38)) (.k (t 37))) fun x39_0 h => R ⟨(upd t 39 x39_0), h⟩) := by kernel_rfl
def c23_35 : ACode := .region (o23_35.map (·.2)) [0] []
theorem s23_35 (h : wS fs out s.h.nx o23_35 s.t ⟨s.h.o, s.h.nx + 1⟩ (Q .normal)) : wC fs out c23_35 s Q := wC_region rfl rfl h
def c23_37 : ACode := .cond (.t 39) .skip (.exit 2) [1, 8, 37, 38]
theorem s23_37 (h : onC (s.t 39) (Q .normal (keepOnly [1, 8, 37, 38] s)) (Q (.exit 2) (keepOnly [1, 8, 37, 38] s))) : wC fs out c23_37 s Q := wC_condC (by first | exact h | (simp only [wC_skip, wC_exit, wC_ret]; exact h))
def o23_41 : List (Nat × AOper) := (0, ⟨some 40, .mov (.t 38), none⟩) ::
   (1, ⟨some 9, .mov (.t 40), none⟩) ::
   []
theorem h23_41 : wS fs out b o23_41 t h R = (wV fs out (b + 0) noT h (.mov (.k (t 38))) fun x40_0 h => wV fs out (b + 1) noT h (.mov (.k x40_0)) fun x9_1 h => R ⟨(upd (upd t 40 x40_0) 9 x9_1), h⟩) := by kernel_rfl
def c23_41 : ACode := .region (o23_41.map (·.2)) [0, 1] []
theorem s23_41 (h : wS fs out s.h.nx o23_41 s.t ⟨s.h.o, s.h.nx + 2⟩ (Q .normal)) : wC fs out c23_41 s Q := wC_region rfl rfl h
def o23_42 : List (Nat × AOper) := (0, ⟨some 41, .mov (.t 8), none⟩) ::
   (1, ⟨some 42, .mov (.t 9), none⟩) ::
   (2, ⟨some 43, .iadr 3 (.t 41) (.t 42), none⟩) ::
   (3, ⟨some 44, .fadr 0 (.t 43), none⟩) ::
   (4, ⟨none, .store 1 (.t 44) (.k (.v (.one (.int .i64 0)))), none⟩) ::
   []
theorem h23_42 : wS fs out b o23_42 t h R = (wV fs out (b + 0) noT h (.mov (.k (t 8))) fun x41_0 h => wV fs out (b + 1) noT h (.mov (.k (t 9))) fun x42_1 h => wV fs out (b + 2) noT h (.iadr 3 (.k x41_0) (.k x42_1)) fun x43_2 h => wV fs out (b + 3) noT h (.fadr 0 (.k x43_2)) fun x44_3 h => wV fs out (b + 4) noT h (.store 1 (.k x44_3) (.k (.v (.one (.int .i64 0))))) fun _ h => R ⟨(upd (upd (upd (upd t 41 x41_0) 42 x42_1) 43 x43_2) 44 x44_3), h⟩) := by kernel_rfl
def c23_42 : ACode := .region (o23_42.map (·.2)) [0, 1, 2, 3, 4] []
theorem s23_42 (h : wS fs out s.h.nx o23_42 s.t ⟨s.h.o, s.h.nx + 5⟩ (Q .normal)) : wC fs out c23_42 s Q := wC_region rfl rfl h
def c23_40 : ACode := .seq c23_41 c23_42
theorem s23_40 (h : wS fs out s.h.nx o23_41 s.t ⟨s.h.o, s.h.nx + 2⟩ fun s1 => wC fs out c23_42 s1 Q) : wC fs out c23_40 s Q := wC_seq (s23_41 h)
def c23_39 : ACode := .block 3 c23_40
theorem s23_39 (h : wC fs out c23_40 s fun e s1 => Q (if e = .exit 3 then .normal else e) s1) : wC fs out c23_39 s Q := wC_block h
def o23_43 : List (Nat × AOper) := (0, ⟨some 45, .bin .add (.t 38) (.k (.v (.one (.int .i64 1)))), none⟩) ::
   (1, ⟨some 38, .mov (.t 45), none⟩) ::
   []
theorem h23_43 : wS fs out b o23_43 t h R = (wV fs out (b + 0) noT h (.bin .add (.k (t 38)) (.k (.v (.one (.int .i64 1))))) fun x45_0 h => wV fs out (b + 1) noT h (.mov (.k x45_0)) fun x38_1 h => R ⟨(upd (upd t 45 x45_0) 38 x38_1), h⟩) := by kernel_rfl
def c23_43 : ACode := .region (o23_43.map (·.2)) [0, 1] []
theorem s23_43 (h : wS fs out s.h.nx o23_43 s.t ⟨s.h.o, s.h.nx + 2⟩ (Q .normal)) : wC fs out c23_43 s Q := wC_region rfl rfl h
def c23_38 : ACode := .seq c23_39 c23_43
theorem s23_38 (h : wC fs out c23_39 s fun e s1 => match e with | .normal => wC fs out c23_43 s1 Q | e => Q e s1) : wC fs out c23_38 s Q := wC_seq h
def c23_36 : ACode := .seq c23_37 c23_38
theorem s23_36 (h : onC (s.t 39) (wC fs out c23_38 (keepOnly [1, 8, 37, 38] s) Q) (Q (.exit 2) (keepOnly [1, 8, 37, 38] s))) : wC fs out c23_36 s Q := wC_seq (s23_37 h)
def c23_34 : ACode := .seq c23_35 c23_36
theorem s23_34 (h : wS fs out s.h.nx o23_35 s.t ⟨s.h.o, s.h.nx + 1⟩ fun s1 => wC fs out c23_36 s1 Q) : wC fs out c23_34 s Q := wC_seq (s23_35 h)
def c23_33 : ACode := .loop [1, 8, 37, 38] c23_34
theorem s23_33 (I : Nat → St → Prop) (n : Nat) (h0 : I n (keepOnly [1, 8, 37, 38] s)) (step : ∀ m s (Q' : AExit → St → Prop), I m s → (∀ m' s1, m' < m → I m' (keepOnly [1, 8, 37, 38] s1) → Q' .normal s1) → (∀ i s1, Q (.exit i) s1 → Q' (.exit i) s1) → (∀ s1, Q .ret s1 → Q' .ret s1) → wC fs out c23_34 s Q') : wC fs out c23_33 s Q := wC_loopQ I n h0 step
def c23_32 : ACode := .block 2 c23_33
theorem s23_32 (h : wC fs out c23_33 s fun e s1 => Q (if e = .exit 2 then .normal else e) s1) : wC fs out c23_32 s Q := wC_block h
def c23_30 : ACode := .seq c23_31 c23_32
theorem s23_30 (h : wS fs out s.h.nx o23_31 s.t ⟨s.h.o, s.h.nx + 3⟩ fun s1 => wC fs out c23_32 s1 Q) : wC fs out c23_30 s Q := wC_seq (s23_31 h)
def o23_46 : List (Nat × AOper) := (0, ⟨some 46, .mov (.t 1), none⟩) ::
   (1, ⟨some 47, .len (.t 46), none⟩) ::
   (2, ⟨some 48, .mov (.k (.v (.one (.int .i64 0)))), none⟩) ::
   []
theorem h23_46 : wS fs out b o23_46 t h R = (wV fs out (b + 0) noT h (.mov (.k (t 1))) fun x46_0 h => wV fs out (b + 1) noT h (.len (.k x46_0)) fun x47_1 h => wV fs out (b + 2) noT h (.mov (.k (.v (.one (.int .i64 0))))) fun x48_2 h => R ⟨(upd (upd (upd t 46 x46_0) 47 x47_1) 48 x48_2), h⟩) := by kernel_rfl
def c23_46 : ACode := .region (o23_46.map (·.2)) [0, 1, 2] []
theorem s23_46 (h : wS fs out s.h.nx o23_46 s.t ⟨s.h.o, s.h.nx + 3⟩ (Q .normal)) : wC fs out c23_46 s Q := wC_region rfl rfl h
def o23_50 : List (Nat × AOper) := (0, ⟨some 49, .bin .lss (.t 48) (.t 47), none⟩) ::
   []
theorem h23_50 : wS fs out b o23_50 t h R = (wV fs out (b + 0) noT h (.bin .lss (.k (t 48)) (.k (t 47))) fun x49_0 h => R ⟨(upd t 49 x49_0), h⟩) := by kernel_rfl
def c23_50 : ACode := .region (o23_50.map (·.2)) [0] []
theorem s23_50 (h : wS fs out s.h.nx o23_50 s.t ⟨s.h.o, s.h.nx + 1⟩ (Q .normal)) : wC fs out c23_50 s Q := wC_region rfl rfl h
def c23_52 : ACode := .cond (.t 49) .skip (.exit 4) [8, 46, 47, 48]
theorem s23_52 (h : onC (s.t 49) (Q .normal (keepOnly [8, 46, 47, 48] s)) (Q (.exit 4) (keepOnly [8, 46, 47, 48] s))) : wC fs out c23_52 s Q := wC_condC (by first | exact h | (simp only [wC_skip, wC_exit, wC_ret]; exact h))
def o23_56 : List (Nat × AOper) := (0, ⟨some 50, .iadr 4 (.t 46) (.t 48), none⟩) ::
   (1, ⟨some 51, .load (some 4) (.t 50), none⟩) ::
   (2, ⟨some 11, .new 31 [(.int .i64 0), (.bool false), (.int .i64 0), (.int .i64 0)], none⟩) ::
   (3, ⟨none, .store 4 (.t 11) (.t 51), none⟩) ::
   []
theorem h23_56 : wS fs out b o23_56 t h R = (wV fs out (b + 0) noT h (.iadr 4 (.k (t 46)) (.k (t 48))) fun x50_0 h => wV fs out (b + 1) noT h (.load (some 4) (.k x50_0)) fun x51_1 h => wV fs out (b + 2) noT h (.new 31 [(.int .i64 0), (.bool false), (.int .i64 0), (.int .i64 0)]) fun x11_2 h => wV fs out (b + 3) noT h (.store 4 (.k x11_2) (.k x51_1)) fun _ h => R ⟨(upd (upd (upd t 50 x50_0) 51 x51_1) 11 x11_2), h⟩) := by kernel_rfl
def c23_56 : ACode := .region (o23_56.map (·.2)) [0, 1, 2, 3] []
theorem s23_56 (h : wS fs out s.h.nx o23_56 s.t ⟨s.h.o, s.h.nx + 4⟩ (Q .normal)) : wC fs out c23_56 s Q := wC_region rfl rfl h
def c23_57 : ACode := .region [⟨some 52, .mov (.t 8), none⟩,
   ⟨some 53, .fadr 0 (.t 11), none⟩,
   ⟨some 54, .load none (.t 53), none⟩,
   ⟨some 55, .mov (.t 8), none⟩,
   ⟨some 56, .fadr 0 (.t 11), none⟩,
   ⟨some 57, .load none (.t 56), none⟩,
   ⟨some 58, .iadr 3 (.t 55) (.t 57), none⟩,
   ⟨some 59, .load (some 3) (.t 58), none⟩,
   ⟨some 60, .load (some 4) (.t 11), none⟩,
   ⟨some 61, .call 14 [(.t 59), (.t 60)], none⟩,
   ⟨some 62, .iadr 3 (.t 52) (.t 54), none⟩,
   ⟨none, .store 3 (.t 62) (.t 61), none⟩] [0, 1, 2, 3, 4, 5, 6, 7, 8, 9, 10, 11] [(9, [2])]
def o23_57 : List (Nat × AOper) := (0, ⟨some 52, .mov (.t 8), none⟩) ::
   (1, ⟨some 53, .fadr 0 (.t 11), none⟩) ::
   (2, ⟨some 54, .load none (.t 53), none⟩) ::
   (3, ⟨some 55, .mov (.t 8), none⟩) ::
   (4, ⟨some 56, .fadr 0 (.t 11), none⟩) ::
   (5, ⟨some 57, .load none (.t 56), none⟩) ::
   (6, ⟨some 58, .iadr 3 (.t 55) (.t 57), none⟩) ::
   (7, ⟨some 59, .load (some 3) (.t 58), none⟩) ::
   (8, ⟨some 60, .load (some 4) (.t 11), none⟩) ::
   (9, ⟨some 61, .call 14 [(.t 59), (.t 60)], none⟩) ::
   []
theorem h23_57 : wS fs out b o23_57 t h R = (wV fs out (b + 0) noT h (.mov (.k (t 8))) fun x52_0 h => wV fs out (b + 1) noT h (.fadr 0 (.k (t 11))) fun x53_1 h => wV fs out (b + 2) noT h (.load none (.k x53_1)) fun x54_2 h => wV fs out (b + 3) noT h (.mov (.k (t 8))) fun x55_3 h => wV fs out (b + 4) noT h (.fadr 0 (.k (t 11))) fun x56_4 h => wV fs out (b + 5) noT h (.load none (.k x56_4)) fun x57_5 h => wV fs out (b + 6) noT h (.iadr 3 (.k x55_3) (.k x57_5)) fun x58_6 h => wV fs out (b + 7) noT h (.load (some 3) (.k x58_6)) fun x59_7 h => wV fs out (b + 8) noT h (.load (some 4) (.k (t 11))) fun x60_8 h => wV fs out (b + 9) noT h (.call 14 [(.k x59_7), (.k x60_8)]) fun x61_9 h => R ⟨(upd (upd (upd (upd (upd (upd (upd (upd (upd (upd t 52 x52_0) 53 x53_1) 54 x54_2) 55 x55_3) 56 x56_4) 57 x57_5) 58 x58_6) 59 x59_7) 60 x60_8) 61 x61_9), h⟩) := by kernel_rfl
def o23_57h1 : List (Nat × AOper) := (10, ⟨some 62, .iadr 3 (.t 52) (.t 54), none⟩) ::
   (11, ⟨none, .store 3 (.t 62) (.t 61), none⟩) ::
   []
theorem h23_57h1 : wS fs out b o23_57h1 t h R = (wV fs out (b + 10) noT h (.iadr 3 (.k (t 52)) (.k (t 54))) fun x62_0 h => wV fs out (b + 11) noT h (.store 3 (.k x62_0) (.k (t 61))) fun _ h => R ⟨(upd t 62 x62_0), h⟩) := by kernel_rfl
theorem s23_57 (h : wS fs out s.h.nx o23_57 s.t ⟨s.h.o, s.h.nx + 12⟩ fun s1 => (holdOk s1 ⟨some 54, .load none (.t 53), none⟩ = true) ∧ wS fs out s.h.nx o23_57h1 s1.t s1.h (Q .normal)) : wC fs out c23_57 s Q := wC_regionP (wP_seg (run := [0, 1, 2, 3, 4, 5, 6, 7, 8]) (i0 := 9) (rest := [10, 11]) rfl rfl rfl (wS_mono _ h fun s1 hh1 => ⟨by simpa [and_assoc, holdsB, holdsOf] using hh1.1, (wP_end (run := [10, 11]) rfl rfl rfl hh1.2)⟩))
def c23_55 : ACode := .seq c23_56 c23_57
theorem s23_55 (h : wS fs out s.h.nx o23_56 s.t ⟨s.h.o, s.h.nx + 4⟩ fun s1 => wC fs out c23_57 s1 Q) : wC fs out c23_55 s Q := wC_seq (s23_56 h)
def c23_54 : ACode := .block 5 c23_55
theorem s23_54 (h : wC fs out c23_55 s fun e s1 => Q (if e = .exit 5 then .normal else e) s1) : wC fs out c23_54 s Q := wC_block h
def o23_58 : List (Nat × AOper) := (0, ⟨some 63, .bin .add (.t 48) (.k (.v (.one (.int .i64 1)))), none⟩) ::
   (1, ⟨some 48, .mov (.t 63), none⟩) ::
   []
theorem h23_58 : wS fs out b o23_58 t h R = (wV fs out (b + 0) noT h (.bin .add (.k (t 48)) (.k (.v (.one (.int .i64 1))))) fun x63_0 h => wV fs out (b + 1) noT h (.mov (.k x63_0)) fun x48_1 h => R ⟨(upd (upd t 63 x63_0) 48 x48_1), h⟩) := by kernel_rfl
def c23_58 : ACode := .region (o23_58.map (·.2)) [0, 1] []
theorem s23_58 (h : wS fs out s.h.nx o23_58 s.t ⟨s.h.o, s.h.nx + 2⟩ (Q .normal)) : wC fs out c23_58 s Q := wC_region rfl rfl h
def c23_53 : ACode := .seq c23_54 c23_58
theorem s23_53 (h : wC fs out c23_54 s fun e s1 => match e with | .normal => wC fs out c23_58 s1 Q | e => Q e s1) : wC fs out c23_53 s Q := wC_seq h
def c23_51 : ACode := .seq c23_52 c23_53
theorem s23_51 (h : onC (s.t 49) (wC fs out c23_53 (keepOnly [8, 46, 47, 48] s) Q) (Q (.exit 4) (keepOnly [8, 46, 47, 48] s))) : wC fs out c23_51 s Q := wC_seq (s23_52 h)
def c23_49 : ACode := .seq c23_50 c23_51
theorem s23_49 (h : wS fs out s.h.nx o23_50 s.t ⟨s.h.o, s.h.nx + 1⟩ fun s1 => wC fs out c23_51 s1 Q) : wC fs out c23_49 s Q := wC_seq (s23_50 h)
def c23_48 : ACode := .loop [8, 46, 47, 48] c23_49
theorem s23_48 (I : Nat → St → Prop) (n : Nat) (h0 : I n (keepOnly [8, 46, 47, 48] s)) (step : ∀ m s (Q' : AExit → St → Prop), I m s → (∀ m' s1, m' < m → I m' (keepOnly [8, 46, 47, 48] s1) → Q' .normal s1) → (∀ i s1, Q (.exit i) s1 → Q' (.exit i) s1) → (∀ s1, Q .ret s1 → Q' .ret s1) → wC fs out c23_49 s Q') : wC fs out c23_48 s Q := wC_loopQ I n h0 step
def c23_47 : ACode := .block 4 c23_48
theorem s23_47 (h : wC fs out c23_48 s fun e s1 => Q (if e = .exit 4 then .normal else e) s1) : wC fs out c23_47 s Q := wC_block h
def c23_45 : ACode := .seq c23_46 c23_47
theorem s23_45 (h : wS fs out s.h.nx o23_46 s.t ⟨s.h.o, s.h.nx + 3⟩ fun s1 => wC fs out c23_47 s1 Q) : wC fs out c23_45 s Q := wC_seq (s23_46 h)
def o23_60 : List (Nat × AOper) := (0, ⟨some 64, .mov (.t 8), none⟩) ::
   (1, ⟨some 4, .mov (.t 64), none⟩) ::
   (2, ⟨some 5, .mov (.k (.v (.one (.int .i64 0)))), none⟩) ::
   []
theorem h23_60 : wS fs out b o23_60 t h R = (wV fs out (b + 0) noT h (.mov (.k (t 8))) fun x64_0 h => wV fs out (b + 1) noT h (.mov (.k x64_0)) fun x4_1 h => wV fs out (b + 2) noT h (.mov (.k (.v (.one (.int .i64 0))))) fun x5_2 h => R ⟨(upd (upd (upd t 64 x64_0) 4 x4_1) 5 x5_2), h⟩) := by kernel_rfl
def c23_60 : ACode := .region (o23_60.map (·.2)) [0, 1, 2] []
theorem s23_60 (h : wS fs out s.h.nx o23_60 s.t ⟨s.h.o, s.h.nx + 3⟩ (Q .normal)) : wC fs out c23_60 s Q := wC_region rfl rfl h
def c23_59 : ACode := .seq c23_60 .ret
theorem s23_59 (h : wS fs out s.h.nx o23_60 s.t ⟨s.h.o, s.h.nx + 3⟩ fun s1 => wC fs out .ret s1 Q) : wC fs out c23_59 s Q := wC_seq (s23_60 h)
def c23_44 : ACode := .seq c23_45 c23_59
theorem s23_44 (h : wC fs out c23_45 s fun e s1 => match e with | .normal => wC fs out c23_59 s1 Q | e => Q e s1) : wC fs out c23_44 s Q := wC_seq h
def c23_29 : ACode := .seq c23_30 c23_44
theorem s23_29 (h : wC fs out c23_30 s fun e s1 => match e with | .normal => wC fs out c23_44 s1 Q | e => Q e s1) : wC fs out c23_29 s Q := wC_seq h
def c23_27 : ACode := .seq c23_28 c23_29
theorem s23_27 (h : wS fs out s.h.nx o23_28 s.t ⟨s.h.o, s.h.nx + 3⟩ fun s1 => wC fs out c23_29 s1 Q) : wC fs out c23_27 s Q := wC_seq (s23_28 h)
def c23_8 : ACode := .seq c23_9 c23_27
theorem s23_8 (h : wC fs out c23_9 s fun e s1 => match e with | .normal => wC fs out c23_27 s1 Q | e => Q e s1) : wC fs out c23_8 s Q := wC_seq h
def c23_2 : ACode := .seq c23_3 c23_8
theorem s23_2 (h : wC fs out c23_3 s fun e s1 => match e with | .normal => wC fs out c23_8 s1 Q | e => Q e s1) : wC fs out c23_2 s Q := wC_seq h
def c23_0 : ACode := .seq c23_1 c23_2
theorem s23_0 (h : wS fs out s.h.nx o23_1 s.t ⟨s.h.o, s.h.nx + 2⟩ fun s1 => wC fs out c23_2 s1 Q) : wC fs out c23_0 s Q := wC_seq (s23_1 h)
def a23 : AFunc := ⟨2, [4, 5], none, c23_0⟩
theorem t23 : tell Try.prog Try.f23 [([0, 1, 4, 5], [], []), ([0, 1, 18, 19, 20], [], []), ([0, 1, 18, 19, 20], [], []), ([0, 1, 4, 5, 18, 19, 20], [], []), ([1, 8, 37, 38], [], []), ([1, 8, 37, 38], [], []), ([8, 46, 47, 48], [], []), ([8, 46, 47, 48], [], []), ([0, 1, 2, 3, 4, 5, 6, 7, 8, 9, 10, 11], [(9, [2])], [0, 0, 2, 0, 0, 16, 56, 120, 0, 504, 1023, 2047])] = some a23 := by kernel_rfl
theorem ok23 : FuncOk Try.prog 23 a23 := tell_ok Try.func23 t23

/-- railplan/railplanref30.Run -/
def o24_1 : List (Nat × AOper) := (0, ⟨some 4, .mov (.k (.v (.one .nils))), none⟩) ::
   (1, ⟨some 5, .mov (.k (.v (.one (.int .i64 0)))), none⟩) ::
   []
theorem h24_1 : wS fs out b o24_1 t h R = (wV fs out (b + 0) noT h (.mov (.k (.v (.one .nils)))) fun x4_0 h => wV fs out (b + 1) noT h (.mov (.k (.v (.one (.int .i64 0))))) fun x5_1 h => R ⟨(upd (upd t 4 x4_0) 5 x5_1), h⟩) := by kernel_rfl
def c24_1 : ACode := .region (o24_1.map (·.2)) [0, 1] []
theorem s24_1 (h : wS fs out s.h.nx o24_1 s.t ⟨s.h.o, s.h.nx + 2⟩ (Q .normal)) : wC fs out c24_1 s Q := wC_region rfl rfl h
def o24_4_2 : List (Nat × AOper) := (5, ⟨some 14, .pick (.t 11) (.k (.v (.one (.bool true)))) (.t 13), none⟩) ::
   []
theorem h24_4_2 : wS fs out b o24_4_2 t h R = (wV fs out (b + 5) noT h (.pick (.k (t 11)) (.k (.v (.one (.bool true)))) (.k (t 13))) fun x14_0 h => R ⟨(upd t 14 x14_0), h⟩) := by kernel_rfl
def o24_4_1g : List (Nat × AOper) := (3, ⟨some 12, .mov (.t 0), none⟩) ::
   (4, ⟨some 13, .bin .gtr (.t 12) (.k (.v (.one (.int .i64 144)))), none⟩) ::
   []
theorem h24_4_1g : wS fs out b o24_4_1g t h R = (wV fs out (b + 3) noT h (.mov (.k (t 0))) fun x12_0 h => wV fs out (b + 4) noT h (.bin .gtr (.k x12_0) (.k (.v (.one (.int .i64 144))))) fun x13_1 h => R ⟨(upd (upd t 12 x12_0) 13 x13_1), h⟩) := by kernel_rfl
def o24_4_1 : List (Nat × AOper) := grp 11 false o24_4_1g o24_4_2
theorem w24_4_1 : wS fs out b o24_4_1 t h R = onG (t 11) false (wS fs out b o24_4_1g (upd t 11 (.v (.one (.bool false)))) h fun s => wS fs out b o24_4_2 s.t s.h R) (wS fs out b o24_4_2 (upd (upd (upd t 11 (.v (.one (.bool true)))) 12 (.tup [])) 13 (.tup [])) h R) (wS fs out b o24_4_2 (upd (upd t 12 (.tup [])) 13 (.tup [])) h R) := wS_grpE rfl
def o24_4 : List (Nat × AOper) := (0, ⟨some 9, .mov (.t 0), none⟩) ::
   (1, ⟨some 10, .bin .lss (.t 9) (.k (.v (.one (.int .i64 0)))), none⟩) ::
   (2, ⟨some 11, .mov (.t 10), none⟩) ::
   o24_4_1
theorem h24_4 : wS fs out b o24_4 t h R = (wV fs out (b + 0) noT h (.mov (.k (t 0))) fun x9_0 h => wV fs out (b + 1) noT h (.bin .lss (.k x9_0) (.k (.v (.one (.int .i64 0))))) fun x10_1 h => wV fs out (b + 2) noT h (.mov (.k x10_1)) fun x11_2 h => wS fs out b o24_4_1 (upd (upd (upd t 9 x9_0) 10 x10_1) 11 x11_2) h R) := by kernel_rfl
def c24_4 : ACode := .region (o24_4.map (·.2)) [0, 1, 2, 3, 4, 5] []
theorem s24_4 (h : wS fs out s.h.nx o24_4 s.t ⟨s.h.o, s.h.nx + 6⟩ (Q .normal)) : wC fs out c24_4 s Q := wC_region rfl rfl h
def o24_7 : List (Nat × AOper) := (0, ⟨some 4, .mov (.k (.v (.one .nils))), none⟩) ::
   (1, ⟨some 5, .mov (.k (.v (.one (.int .i64 4)))), none⟩) ::
   []
theorem h24_7 : wS fs out b o24_7 t h R = (wV fs out (b + 0) noT h (.mov (.k (.v (.one .nils)))) fun x4_0 h => wV fs out (b + 1) noT h (.mov (.k (.v (.one (.int .i64 4))))) fun x5_1 h => R ⟨(upd (upd t 4 x4_0) 5 x5_1), h⟩) := by kernel_rfl
def c24_7 : ACode := .region (o24_7.map (·.2)) [0, 1] []
theorem s24_7 (h : wS fs out s.h.nx o24_7 s.t ⟨s.h.o, s.h.nx + 2⟩ (Q .normal)) : wC fs out c24_7 s Q := wC_region rfl rfl h
def c24_6 : ACode := .seq c24_7 .ret
theorem s24_6 (h : wS fs out s.h.nx o24_7 s.t ⟨s.h.o, s.h.nx + 2⟩ fun s1 => wC fs out .ret s1 Q) : wC fs out c24_6 s Q := wC_seq (s24_7 h)
def c24_5 : ACode := .cond (.t 14) c24_6 .skip [0, 1, 4, 5]
theorem s24_5 (h : onC (s.t 14) (wC fs out c24_6 s fun e s1 => Q e (keepOnly [0, 1, 4, 5] s1)) (Q .normal (keepOnly [0, 1, 4, 5] s))) : wC fs out c24_5 s Q := wC_condC (by first | exact h | (simp only [wC_skip, wC_exit, wC_ret]; exact h))
def c24_3 : ACode := .seq c24_4 c24_5
theorem s24_3 (h : wS fs out s.h.nx o24_4 s.t ⟨s.h.o, s.h.nx + 6⟩ fun s1 => wC fs out c24_5 s1 Q) : wC fs out c24_3 s Q := wC_seq (s24_4 h)
def o24_9 : List (Nat × AOper) := (0, ⟨some 15, .mov (.t 0), none⟩) ::
   (1, ⟨some 16, .mks 26 3 24 [(.int .i64 0), (.int .i64 0), (.int .i64 0)] (.t 15) (.t 15), none⟩) ::
   (2, ⟨some 6, .mov (.t 16), none⟩) ::
   []
theorem h24_9 : wS fs out b o24_9 t h R = (wV fs out (b + 0) noT h (.mov (.k (t 0))) fun x15_0 h => wV fs out (b + 1) noT h (.mks 26 3 24 [(.int .i64 0), (.int .i64 0), (.int .i64 0)] (.k x15_0) (.k x15_0)) fun x16_1 h => wV fs out (b + 2) noT h (.mov (.k x16_1)) fun x6_2 h => R ⟨(upd (upd (upd t 15 x15_0) 16 x16_1) 6 x6_2), h⟩) := by kernel_rfl
def c24_9 : ACode := .region (o24_9.map (·.2)) [0, 1, 2] []
theorem s24_9 (h : wS fs out s.h.nx o24_9 s.t ⟨s.h.o, s.h.nx + 3⟩ (Q .normal)) : wC fs out c24_9 s Q := wC_region rfl rfl h
def o24_12 : List (Nat × AOper) := (0, ⟨some 17, .mov (.t 1), none⟩) ::
   (1, ⟨some 18, .len (.t 17), none⟩) ::
   (2, ⟨some 19, .mov (.k (.v (.one (.int .i64 0)))), none⟩) ::
   []
theorem h24_12 : wS fs out b o24_12 t h R = (wV fs out (b + 0) noT h (.mov (.k (t 1))) fun x17_0 h => wV fs out (b + 1) noT h (.len (.k x17_0)) fun x18_1 h => wV fs out (b + 2) noT h (.mov (.k (.v (.one (.int .i64 0))))) fun x19_2 h => R ⟨(upd (upd (upd t 17 x17_0) 18 x18_1) 19 x19_2), h⟩) := by kernel_rfl
def c24_12 : ACode := .region (o24_12.map (·.2)) [0, 1, 2] []
theorem s24_12 (h : wS fs out s.h.nx o24_12 s.t ⟨s.h.o, s.h.nx + 3⟩ (Q .normal)) : wC fs out c24_12 s Q := wC_region rfl rfl h
def o24_16 : List (Nat × AOper) := (0, ⟨some 20, .bin .lss (.t 19) (.t 18), none⟩) ::
   []
theorem h24_16 : wS fs out b o24_16 t h R = (wV fs out (b + 0) noT h (.bin .lss (.k (t 19)) (.k (t 18))) fun x20_0 h => R ⟨(upd t 20 x20_0), h⟩) := by kernel_rfl
def c24_16 : ACode := .region (o24_16.map (·.2)) [0] []
theorem s24_16 (h : wS fs out s.h.nx o24_16 s.t ⟨s.h.o, s.h.nx + 1⟩ (Q .normal)) : wC fs out c24_16 s Q := wC_region rfl rfl h
def c24_18 : ACode := .cond (.t 20) .skip (.exit 0) [0, 6, 17, 18, 19]
theorem s24_18 (h : onC (s.t 20) (Q .normal (keepOnly [0, 6, 17, 18, 19] s)) (Q (.exit 0) (keepOnly [0, 6, 17, 18, 19] s))) : wC fs out c24_18 s Q := wC_condC (by first | exact h | (simp only [wC_skip, wC_exit, wC_ret]; exact h))
def o24_22 : List (Nat × AOper) := (0, ⟨some 21, .iadr 4 (.t 17) (.t 19), none⟩) ::
   (1, ⟨some 22, .load (some 4) (.t 21), none⟩) ::
   (2, ⟨some 8, .new 31 [(.int .i64 0), (.bool false), (.int .i64 0), (.int .i64 0)], none⟩) ::
   (3, ⟨none, .store 4 (.t 8) (.t 22), none⟩) ::
   []
theorem h24_22 : wS fs out b o24_22 t h R = (wV fs out (b + 0) noT h (.iadr 4 (.k (t 17)) (.k (t 19))) fun x21_0 h => wV fs out (b + 1) noT h (.load (some 4) (.k x21_0)) fun x22_1 h => wV fs out (b + 2) noT h (.new 31 [(.int .i64 0), (.bool false), (.int .i64 0), (.int .i64 0)]) fun x8_2 h => wV fs out (b + 3) noT h (.store 4 (.k x8_2) (.k x22_1)) fun _ h => R ⟨(upd (upd (upd t 21 x21_0) 22 x22_1) 8 x8_2), h⟩) := by kernel_rfl
def c24_22 : ACode := .region (o24_22.map (·.2)) [0, 1, 2, 3] []
theorem s24_22 (h : wS fs out s.h.nx o24_22 s.t ⟨s.h.o, s.h.nx + 4⟩ (Q .normal)) : wC fs out c24_22 s Q := wC_region rfl rfl h
def o24_25_2 : List (Nat × AOper) := (8, ⟨some 31, .pick (.t 26) (.k (.v (.one (.bool true)))) (.t 30), none⟩) ::
   []
theorem h24_25_2 : wS fs out b o24_25_2 t h R = (wV fs out (b + 8) noT h (.pick (.k (t 26)) (.k (.v (.one (.bool true)))) (.k (t 30))) fun x31_0 h => R ⟨(upd t 31 x31_0), h⟩) := by kernel_rfl
def o24_25_1g : List (Nat × AOper) := (4, ⟨some 27, .fadr 0 (.t 8), none⟩) ::
   (5, ⟨some 28, .load none (.t 27), none⟩) ::
   (6, ⟨some 29, .mov (.t 0), none⟩) ::
   (7, ⟨some 30, .bin .geq (.t 28) (.t 29), none⟩) ::
   []
theorem h24_25_1g : wS fs out b o24_25_1g t h R = (wV fs out (b + 4) noT h (.fadr 0 (.k (t 8))) fun x27_0 h => wV fs out (b + 5) noT h (.load none (.k x27_0)) fun x28_1 h => wV fs out (b + 6) noT h (.mov (.k (t 0))) fun x29_2 h => wV fs out (b + 7) noT h (.bin .geq (.k x28_1) (.k x29_2)) fun x30_3 h => R ⟨(upd (upd (upd (upd t 27 x27_0) 28 x28_1) 29 x29_2) 30 x30_3), h⟩) := by kernel_rfl
def o24_25_1 : List (Nat × AOper) := grp 26 false o24_25_1g o24_25_2
theorem w24_25_1 : wS fs out b o24_25_1 t h R = onG (t 26) false (wS fs out b o24_25_1g (upd t 26 (.v (.one (.bool false)))) h fun s => wS fs out b o24_25_2 s.t s.h R) (wS fs out b o24_25_2 (upd (upd (upd (upd (upd t 26 (.v (.one (.bool true)))) 27 (.tup [])) 28 (.tup [])) 29 (.tup [])) 30 (.tup [])) h R) (wS fs out b o24_25_2 (upd (upd (upd (upd t 27 (.tup [])) 28 (.tup [])) 29 (.tup [])) 30 (.tup [])) h R) := wS_grpE rfl
def o24_25 : List (Nat × AOper) := (0, ⟨some 23, .fadr 0 (.t 8), none⟩) ::
   (1, ⟨some 24, .load none (.t 23), none⟩) ::
   (2, ⟨some 25, .bin .lss (.t 24) (.k (.v (.one (.int .i64 0)))), none⟩) ::
   (3, ⟨some 26, .mov (.t 25), none⟩) ::
   o24_25_1
theorem h24_25 : wS fs out b o24_25 t h R = (wV fs out (b + 0) noT h (.fadr 0 (.k (t 8))) fun x23_0 h => wV fs out (b + 1) noT h (.load none (.k x23_0)) fun x24_1 h => wV fs out (b + 2) noT h (.bin .lss (.k x24_1) (.k (.v (.one (.int .i64 0))))) fun x25_2 h => wV fs out (b + 3) noT h (.mov (.k x25_2)) fun x26_3 h => wS fs out b o24_25_1 (upd (upd (upd (upd t 23 x23_0) 24 x24_1) 25 x25_2) 26 x26_3) h R) := by kernel_rfl
def c24_25 : ACode := .region (o24_25.map (·.2)) [0, 1, 2, 3, 4, 5, 6, 7, 8] []
theorem s24_25 (h : wS fs out s.h.nx o24_25 s.t ⟨s.h.o, s.h.nx + 9⟩ (Q .normal)) : wC fs out c24_25 s Q := wC_region rfl rfl h
def o24_28 : List (Nat × AOper) := (0, ⟨some 4, .mov (.k (.v (.one .nils))), none⟩) ::
   (1, ⟨some 5, .mov (.k (.v (.one (.int .i64 4)))), none⟩) ::
   []
theorem h24_28 : wS fs out b o24_28 t h R = (wV fs out (b + 0) noT h (.mov (.k (.v (.one .nils)))) fun x4_0 h => wV fs out (b + 1) noT h (.mov (.k (.v (.one (.int .i64 4))))) fun x5_1 h => R ⟨(upd (upd t 4 x4_0) 5 x5_1), h⟩) := by kernel_rfl
def c24_28 : ACode := .region (o24_28.map (·.2)) [0, 1] []
theorem s24_28 (h : wS fs out s.h.nx o24_28 s.t ⟨s.h.o, s.h.nx + 2⟩ (Q .normal)) : wC fs out c24_28 s Q := wC_region rfl rfl h
def c24_27 : ACode := .seq c24_28 .ret
theorem s24_27 (h : wS fs out s.h.nx o24_28 s.t ⟨s.h.o, s.h.nx + 2⟩ fun s1 => wC fs out .ret s1 Q) : wC fs out c24_27 s Q := wC_seq (s24_28 h)
def c24_26 : ACode := .cond (.t 31) c24_27 .skip [0, 4, 5, 6, 8, 17, 18, 19]
theorem s24_26 (h : onC (s.t 31) (wC fs out c24_27 s fun e s1 => Q e (keepOnly [0, 4, 5, 6, 8, 17, 18, 19] s1)) (Q .normal (keepOnly [0, 4, 5, 6, 8, 17, 18, 19] s))) : wC fs out c24_26 s Q := wC_condC (by first | exact h | (simp only [wC_skip, wC_exit, wC_ret]; exact h))
def c24_24 : ACode := .seq c24_25 c24_26
theorem s24_24 (h : wS fs out s.h.nx o24_25 s.t ⟨s.h.o, s.h.nx + 9⟩ fun s1 => wC fs out c24_26 s1 Q) : wC fs out c24_24 s Q := wC_seq (s24_25 h)
def c24_29 : ACode := .region [⟨some 32, .mov (.t 6), none⟩,
   ⟨some 33, .fadr 0 (.t 8), none⟩,
   ⟨some 34, .load none (.t 33), none⟩,
   ⟨some 35, .mov (.t 6), none⟩,
   ⟨some 36, .fadr 0 (.t 8), none⟩,
   ⟨some 37, .load none (.t 36), none⟩,
   ⟨some 38, .iadr 3 (.t 35) (.t 37), none⟩,
   ⟨some 39, .load (some 3) (.t 38), none⟩,
   ⟨some 40, .load (some 4) (.t 8), none⟩,
   ⟨some 41, .call 19 [(.t 39), (.t 40)], none⟩,
   ⟨some 42, .iadr 3 (.t 32) (.t 34), none⟩,
   ⟨none, .store 3 (.t 42) (.t 41), none⟩] [0, 1, 2, 3, 4, 5, 6, 7, 8, 9, 10, 11] [(9, [2])]
def o24_29 : List (Nat × AOper) := (0, ⟨some 32, .mov (.t 6), none⟩) ::
   (1, ⟨some 33, .fadr 0 (.t 8), none⟩) ::
   (2, ⟨some 34, .load none (.t 33), none⟩) ::
   (3, ⟨some 35, .mov (.t 6), none⟩) ::
   (4, ⟨some 36, .fadr 0 (.t 8), none⟩) ::
   (5, ⟨some 37, .load none (.t 36), none⟩) ::
   (6, ⟨some 38, .iadr 3 (.t 35) (.t 37), none⟩) ::
   (7, ⟨some 39, .load (some 3) (.t 38), none⟩) ::
   (8, ⟨some 40, .load (some 4) (.t 8), none⟩) ::
   (9, ⟨some 41, .call 19 [(.t 39), (.t 40)], none⟩) ::
   []
theorem h24_29 : wS fs out b o24_29 t h R = (wV fs out (b + 0) noT h (.mov (.k (t 6))) fun x32_0 h => wV fs out (b + 1) noT h (.fadr 0 (.k (t 8))) fun x33_1 h => wV fs out (b + 2) noT h (.load none (.k x33_1)) fun x34_2 h => wV fs out (b + 3) noT h (.mov (.k (t 6))) fun x35_3 h => wV fs out (b + 4) noT h (.fadr 0 (.k (t 8))) fun x36_4 h => wV fs out (b + 5) noT h (.load none (.k x36_4)) fun x37_5 h => wV fs out (b + 6) noT h (.iadr 3 (.k x35_3) (.k x37_5)) fun x38_6 h => wV fs out (b + 7) noT h (.load (some 3) (.k x38_6)) fun x39_7 h => wV fs out (b + 8) noT h (.load (some 4) (.k (t 8))) fun x40_8 h => wV fs out (b + 9) noT h (.call 19 [(.k x39_7), (.k x40_8)]) fun x41_9 h => R ⟨(upd (upd (upd (upd (upd (upd (upd (upd (upd (upd t 32 x32_0) 33 x33_1) 34 x34_2) 35 x35_3) 36 x36_4) 37 x37_5) 38 x38_6) 39 x39_7) 40 x40_8) 41 x41_9), h⟩) := by kernel_rfl
def o24_29h1 : List (Nat × AOper) := (10, ⟨some 42, .iadr 3 (.t 32) (.t 34), none⟩) ::
   (11, ⟨none, .store 3 (.t 42) (.t 41), none⟩) ::
   []
theorem h24_29h1 : wS fs out b o24_29h1 t h R = (wV fs out (b + 10) noT h (.iadr 3 (.k (t 32)) (.k (t 34))) fun x42_0 h => wV fs out (b + 11) noT h (.store 3 (.k x42_0) (.k (t 41))) fun _ h => R ⟨(upd t 42 x42_0), h⟩) := by kernel_rfl
theorem s24_29 (h : wS fs out s.h.nx o24_29 s.t ⟨s.h.o, s.h.nx + 12⟩ fun s1 => (holdOk s1 ⟨some 34, .load none (.t 33), none⟩ = true) ∧ wS fs out s.h.nx o24_29h1 s1.t s1.h (Q .normal)) : wC fs out c24_29 s Q := wC_regionP (wP_seg (run := [0, 1, 2, 3, 4, 5, 6, 7, 8]) (i0 := 9) (rest := [10, 11]) rfl rfl rfl (wS_mono _ h fun s1 hh1 => ⟨by simpa [and_assoc, holdsB, holdsOf] using hh1.1, (wP_end (run := [10, 11]) rfl rfl rfl hh1.2)⟩))
def c24_23 : ACode := .seq c24_24 c24_29
theorem s24_23 (h : wC fs out c24_24 s fun e s1 => match e with | .normal => wC fs out c24_29 s1 Q | e => Q e s1) : wC fs out c24_23 s Q := wC_seq h
def c24_21 : ACode := .seq c24_22 c24_23
theorem s24_21 (h : wS fs out s.h.nx o24_22 s.t ⟨s.h.o, s.h.nx + 4⟩ fun s1 => wC fs out c24_23 s1 Q) : wC fs out c24_21 s Q := wC_seq (s24_22 h)
def c24_20 : ACode := .block 1 c24_21
theorem s24_20 (h : wC fs out c24_21 s fun e s1 => Q (if e = .exit 1 then .normal else e) s1) : wC fs out c24_20 s Q := wC_block h
def o24_30 : List (Nat × AOper) := (0, ⟨some 43, .bin .add (.t 19) (.k (.v (.one (.int .i64 1)))), none⟩) ::
   (1, ⟨some 19, .mov (.t 43), none⟩) ::
   []
theorem h24_30 : wS fs out b o24_30 t h R = (wV fs out (b + 0) noT h (.bin .add (.k (t 19)) (.k (.v (.one (.int .i64 1))))) fun x43_0 h => wV fs out (b + 1) noT h (.mov (.k x43_0)) fun x19_1 h => R ⟨(upd (upd t 43 x43_0) 19 x19_1), h⟩) := by kernel_rfl
def c24_30 : ACode := .region (o24_30.map (·.2)) [0, 1] []
theorem s24_30 (h : wS fs out s.h.nx o24_30 s.t ⟨s.h.o, s.h.nx + 2⟩ (Q .normal)) : wC fs out c24_30 s Q := wC_region rfl rfl h
def c24_19 : ACode := .seq c24_20 c24_30
theorem s24_19 (h : wC fs out c24_20 s fun e s1 => match e with | .normal => wC fs out c24_30 s1 Q | e => Q e s1) : wC fs out c24_19 s Q := wC_seq h
def c24_17 : ACode := .seq c24_18 c24_19
theorem s24_17 (h : onC (s.t 20) (wC fs out c24_19 (keepOnly [0, 6, 17, 18, 19] s) Q) (Q (.exit 0) (keepOnly [0, 6, 17, 18, 19] s))) : wC fs out c24_17 s Q := wC_seq (s24_18 h)
def c24_15 : ACode := .seq c24_16 c24_17
theorem s24_15 (h : wS fs out s.h.nx o24_16 s.t ⟨s.h.o, s.h.nx + 1⟩ fun s1 => wC fs out c24_17 s1 Q) : wC fs out c24_15 s Q := wC_seq (s24_16 h)
def c24_14 : ACode := .loop [0, 6, 17, 18, 19] c24_15
theorem s24_14 (I : Nat → St → Prop) (n : Nat) (h0 : I n (keepOnly [0, 6, 17, 18, 19] s)) (step : ∀ m s (Q' : AExit → St → Prop), I m s → (∀ m' s1, m' < m → I m' (keepOnly [0, 6, 17, 18, 19] s1) → Q' .normal s1) → (∀ i s1, Q (.exit i) s1 → Q' (.exit i) s1) → (∀ s1, Q .ret s1 → Q' .ret s1) → wC fs out c24_15 s Q') : wC fs out c24_14 s Q := wC_loopQ I n h0 step
def c24_13 : ACode := .block 0 c24_14
theorem s24_13 (h : wC fs out c24_14 s fun e s1 => Q (if e = .exit 0 then .normal else e) s1) : wC fs out c24_13 s Q := wC_block h
def c24_11 : ACode := .seq c24_12 c24_13
theorem s24_11 (h : wS fs out s.h.nx o24_12 s.t ⟨s.h.o, s.h.nx + 3⟩ fun s1 => wC fs out c24_13 s1 Q) : wC fs out c24_11 s Q := wC_seq (s24_12 h)
def o24_32 : List (Nat × AOper) := (0, ⟨some 44, .mov (.t 6), none⟩) ::
   (1, ⟨some 4, .mov (.t 44), none⟩) ::
   (2, ⟨some 5, .mov (.k (.v (.one (.int .i64 0)))), none⟩) ::
   []
theorem h24_32 : wS fs out b o24_32 t h R = (wV fs out (b + 0) noT h (.mov (.k (t 6))) fun x44_0 h => wV fs out (b + 1) noT h (.mov (.k x44_0)) fun x4_1 h => wV fs out (b + 2) noT h (.mov (.k (.v (.one (.int .i64 0))))) fun x5_2 h => R ⟨(upd (upd (upd t 44 x44_0) 4 x4_1) 5 x5_2), h⟩) := by kernel_rfl
def c24_32 : ACode := .region (o24_32.map (·.2)) [0, 1, 2] []
theorem s24_32 (h : wS fs out s.h.nx o24_32 s.t ⟨s.h.o, s.h.nx + 3⟩ (Q .normal)) : wC fs out c24_32 s Q := wC_region rfl rfl h
def c24_31 : ACode := .seq c24_32 .ret
theorem s24_31 (h : wS fs out s.h.nx o24_32 s.t ⟨s.h.o, s.h.nx + 3⟩ fun s1 => wC fs out .ret s1 Q) : wC fs out c24_31 s Q := wC_seq (s24_32 h)
def c24_10 : ACode := .seq c24_11 c24_31
theorem s24_10 (h : wC fs out c24_11 s fun e s1 => match e with | .normal => wC fs out c24_31 s1 Q | e => Q e s1) : wC fs out c24_10 s Q := wC_seq h
def c24_8 : ACode := .seq c24_9 c24_10
theorem s24_8 (h : wS fs out s.h.nx o24_9 s.t ⟨s.h.o, s.h.nx + 3⟩ fun s1 => wC fs out c24_10 s1 Q) : wC fs out c24_8 s Q := wC_seq (s24_9 h)
def c24_2 : ACode := .seq c24_3 c24_8
theorem s24_2 (h : wC fs out c24_3 s fun e s1 => match e with | .normal => wC fs out c24_8 s1 Q | e => Q e s1) : wC fs out c24_2 s Q := wC_seq h
def c24_0 : ACode := .seq c24_1 c24_2
theorem s24_0 (h : wS fs out s.h.nx o24_1 s.t ⟨s.h.o, s.h.nx + 2⟩ fun s1 => wC fs out c24_2 s1 Q) : wC fs out c24_0 s Q := wC_seq (s24_1 h)
def a24 : AFunc := ⟨2, [4, 5], none, c24_0⟩
theorem t24 : tell Try.prog Try.f24 [([0, 1, 4, 5], [], []), ([0, 6, 17, 18, 19], [], []), ([0, 6, 17, 18, 19], [], []), ([0, 4, 5, 6, 8, 17, 18, 19], [], []), ([0, 1, 2, 3, 4, 5, 6, 7, 8, 9, 10, 11], [(9, [2])], [0, 0, 2, 0, 0, 16, 56, 120, 0, 504, 1023, 2047])] = some a24 := by kernel_rfl
theorem ok24 : FuncOk Try.prog 24 a24 := tell_ok Try.func24 t24

/-- railplan/railplankeep.Same[railplan/api.Counter] -/
def o25_1 : List (Nat × AOper) := (0, ⟨some 4, .mov (.k (.v (.one (.bool false)))), none⟩) ::
   []
theorem h25_1 : wS fs out b o25_1 t h R = (wV fs out (b + 0) noT h (.mov (.k (.v (.one (.bool false))))) fun x4_0 h => R ⟨(upd t 4 x4_0), h⟩) := by kernel_rfl
def c25_1 : ACode := .region (o25_1.map (·.2)) [0] []
theorem s25_1 (h : wS fs out s.h.nx o25_1 s.t ⟨s.h.o, s.h.nx + 1⟩ (Q .normal)) : wC fs out c25_1 s Q := wC_region rfl rfl h
def o25_4 : List (Nat × AOper) := (0, ⟨some 6, .mov (.t 0), none⟩) ::
   (1, ⟨some 7, .len (.t 6), none⟩) ::
   (2, ⟨some 8, .mov (.t 1), none⟩) ::
   (3, ⟨some 9, .len (.t 8), none⟩) ::
   (4, ⟨some 10, .bin .neq (.t 7) (.t 9), none⟩) ::
   []
theorem h25_4 : wS fs out b o25_4 t h R = (wV fs out (b + 0) noT h (.mov (.k (t 0))) fun x6_0 h => wV fs out (b + 1) noT h (.len (.k x6_0)) fun x7_1 h => wV fs out (b + 2) noT h (.mov (.k (t 1))) fun x8_2 h => wV fs out (b + 3) noT h (.len (.k x8_2)) fun x9_3 h => wV fs out (b + 4) noT h (.bin .neq (.k x7_1) (.k x9_3)) fun x10_4 h => R ⟨(upd (upd (upd (upd (upd t 6 x6_0) 7 x7_1) 8 x8_2) 9 x9_3) 10 x10_4), h⟩) := by kernel_rfl
def c25_4 : ACode := .region (o25_4.map (·.2)) [0, 1, 2, 3, 4] []
theorem s25_4 (h : wS fs out s.h.nx o25_4 s.t ⟨s.h.o, s.h.nx + 5⟩ (Q .normal)) : wC fs out c25_4 s Q := wC_region rfl rfl h
def o25_7 : List (Nat × AOper) := (0, ⟨some 4, .mov (.k (.v (.one (.bool false)))), none⟩) ::
   []
theorem h25_7 : wS fs out b o25_7 t h R = (wV fs out (b + 0) noT h (.mov (.k (.v (.one (.bool false))))) fun x4_0 h => R ⟨(upd t 4 x4_0), h⟩) := by kernel_rfl
def c25_7 : ACode := .region (o25_7.map (·.2)) [0] []
theorem s25_7 (h : wS fs out s.h.nx o25_7 s.t ⟨s.h.o, s.h.nx + 1⟩ (Q .normal)) : wC fs out c25_7 s Q := wC_region rfl rfl h
def c25_6 : ACode := .seq c25_7 .ret
theorem s25_6 (h : wS fs out s.h.nx o25_7 s.t ⟨s.h.o, s.h.nx + 1⟩ fun s1 => wC fs out .ret s1 Q) : wC fs out c25_6 s Q := wC_seq (s25_7 h)
def c25_5 : ACode := .cond (.t 10) c25_6 .skip [0, 1, 4]
theorem s25_5 (h : onC (s.t 10) (wC fs out c25_6 s fun e s1 => Q e (keepOnly [0, 1, 4] s1)) (Q .normal (keepOnly [0, 1, 4] s))) : wC fs out c25_5 s Q := wC_condC (by first | exact h | (simp only [wC_skip, wC_exit, wC_ret]; exact h))
def c25_3 : ACode := .seq c25_4 c25_5
theorem s25_3 (h : wS fs out s.h.nx o25_4 s.t ⟨s.h.o, s.h.nx + 5⟩ fun s1 => wC fs out c25_5 s1 Q) : wC fs out c25_3 s Q := wC_seq (s25_4 h)
def o25_10 : List (Nat × AOper) := (0, ⟨some 11, .mov (.t 0), none⟩) ::
   (1, ⟨some 12, .len (.t 11), none⟩) ::
   (2, ⟨some 13, .mov (.k (.v (.one (.int .i64 0)))), none⟩) ::
   []
theorem h25_10 : wS fs out b o25_10 t h R = (wV fs out (b + 0) noT h (.mov (.k (t 0))) fun x11_0 h => wV fs out (b + 1) noT h (.len (.k x11_0)) fun x12_1 h => wV fs out (b + 2) noT h (.mov (.k (.v (.one (.int .i64 0))))) fun x13_2 h => R ⟨(upd (upd (upd t 11 x11_0) 12 x12_1) 13 x13_2), h⟩) := by kernel_rfl
def c25_10 : ACode := .region (o25_10.map (·.2)) [0, 1, 2] []
theorem s25_10 (h : wS fs out s.h.nx o25_10 s.t ⟨s.h.o, s.h.nx + 3⟩ (Q .normal)) : wC fs out c25_10 s Q := wC_region rfl rfl h
def o25_14 : List (Nat × AOper) := (0, ⟨some 14, .bin .lss (.t 13) (.t 12), none⟩) ::
   []
theorem h25_14 : wS fs out b o25_14 t h R = (wV fs out (b + 0) noT h (.bin .lss (.k (t 13)) (.k (t 12))) fun x14_0 h => R ⟨(upd t 14 x14_0), h⟩) := by kernel_rfl
def c25_14 : ACode := .region (o25_14.map (·.2)) [0] []
theorem s25_14 (h : wS fs out s.h.nx o25_14 s.t ⟨s.h.o, s.h.nx + 1⟩ (Q .normal)) : wC fs out c25_14 s Q := wC_region rfl rfl h
def c25_16 : ACode := .cond (.t 14) .skip (.exit 0) [0, 1, 12, 13]
theorem s25_16 (h : onC (s.t 14) (Q .normal (keepOnly [0, 1, 12, 13] s)) (Q (.exit 0) (keepOnly [0, 1, 12, 13] s))) : wC fs out c25_16 s Q := wC_condC (by first | exact h | (simp only [wC_skip, wC_exit, wC_ret]; exact h))
def o25_20 : List (Nat × AOper) := (0, ⟨some 15, .mov (.t 13), none⟩) ::
   (1, ⟨some 5, .mov (.t 15), none⟩) ::
   []
theorem h25_20 : wS fs out b o25_20 t h R = (wV fs out (b + 0) noT h (.mov (.k (t 13))) fun x15_0 h => wV fs out (b + 1) noT h (.mov (.k x15_0)) fun x5_1 h => R ⟨(upd (upd t 15 x15_0) 5 x5_1), h⟩) := by kernel_rfl
def c25_20 : ACode := .region (o25_20.map (·.2)) [0, 1] []
theorem s25_20 (h : wS fs out s.h.nx o25_20 s.t ⟨s.h.o, s.h.nx + 2⟩ (Q .normal)) : wC fs out c25_20 s Q := wC_region rfl rfl h
def o25_22 : List (Nat × AOper) := (0, ⟨some 16, .mov (.t 0), none⟩) ::
   (1, ⟨some 17, .mov (.t 5), none⟩) ::
   (2, ⟨some 18, .iadr 3 (.t 16) (.t 17), none⟩) ::
   (3, ⟨some 19, .load (some 3) (.t 18), none⟩) ::
   (4, ⟨some 20, .mov (.t 1), none⟩) ::
   (5, ⟨some 21, .mov (.t 5), none⟩) ::
   (6, ⟨some 22, .iadr 3 (.t 20) (.t 21), none⟩) ::
   (7, ⟨some 23, .load (some 3) (.t 22), none⟩) ::
   (8, ⟨some 24, .eqs true [true, true, true] (.t 19) (.t 23), none⟩) ::
   []
theorem h25_22 : wS fs out b o25_22 t h R = (wV fs out (b + 0) noT h (.mov (.k (t 0))) fun x16_0 h => wV fs out (b + 1) noT h (.mov (.k (t 5))) fun x17_1 h => wV fs out (b + 2) noT h (.iadr 3 (.k x16_0) (.k x17_1)) fun x18_2 h => wV fs out (b + 3) noT h (.load (some 3) (.k x18_2)) fun x19_3 h => wV fs out (b + 4) noT h (.mov (.k (t 1))) fun x20_4 h => wV fs out (b + 5) noT h (.mov (.k (t 5))) fun x21_5 h => wV fs out (b + 6) noT h (.iadr 3 (.k x20_4) (.k x21_5)) fun x22_6 h => wV fs out (b + 7) noT h (.load (some 3) (.k x22_6)) fun x23_7 h => wV fs out (b + 8) noT h (.eqs true [true, true, true] (.k x19_3) (.k x23_7)) fun x24_8 h => R ⟨(upd (upd (upd (upd (upd (upd (upd (upd (upd t 16 x16_0) 17 x17_1) 18 x18_2) 19 x19_3) 20 x20_4) 21 x21_5) 22 x22_6) 23 x23_7) 24 x24_8), h⟩) := by kernel_rfl
def c25_22 : ACode := .region (o25_22.map (·.2)) [0, 1, 2, 3, 4, 5, 6, 7, 8] []
theorem s25_22 (h : wS fs out s.h.nx o25_22 s.t ⟨s.h.o, s.h.nx + 9⟩ (Q .normal)) : wC fs out c25_22 s Q := wC_region rfl rfl h
def o25_25 : List (Nat × AOper) := (0, ⟨some 4, .mov (.k (.v (.one (.bool false)))), none⟩) ::
   []
theorem h25_25 : wS fs out b o25_25 t h R = (wV fs out (b + 0) noT h (.mov (.k (.v (.one (.bool false))))) fun x4_0 h => R ⟨(upd t 4 x4_0), h⟩) := by kernel_rfl
def c25_25 : ACode := .region (o25_25.map (·.2)) [0] []
theorem s25_25 (h : wS fs out s.h.nx o25_25 s.t ⟨s.h.o, s.h.nx + 1⟩ (Q .normal)) : wC fs out c25_25 s Q := wC_region rfl rfl h
def c25_24 : ACode := .seq c25_25 .ret
theorem s25_24 (h : wS fs out s.h.nx o25_25 s.t ⟨s.h.o, s.h.nx + 1⟩ fun s1 => wC fs out .ret s1 Q) : wC fs out c25_24 s Q := wC_seq (s25_25 h)
def c25_23 : ACode := .cond (.t 24) c25_24 .skip [0, 1, 4, 12, 13]
theorem s25_23 (h : onC (s.t 24) (wC fs out c25_24 s fun e s1 => Q e (keepOnly [0, 1, 4, 12, 13] s1)) (Q .normal (keepOnly [0, 1, 4, 12, 13] s))) : wC fs out c25_23 s Q := wC_condC (by first | exact h | (simp only [wC_skip, wC_exit, wC_ret]; exact h))
def c25_21 : ACode := .seq c25_22 c25_23
theorem s25_21 (h : wS fs out s.h.nx o25_22 s.t ⟨s.h.o, s.h.nx + 9⟩ fun s1 => wC fs out c25_23 s1 Q) : wC fs out c25_21 s Q := wC_seq (s25_22 h)
def c25_19 : ACode := .seq c25_20 c25_21
theorem s25_19 (h : wS fs out s.h.nx o25_20 s.t ⟨s.h.o, s.h.nx + 2⟩ fun s1 => wC fs out c25_21 s1 Q) : wC fs out c25_19 s Q := wC_seq (s25_20 h)
def c25_18 : ACode := .block 1 c25_19
theorem s25_18 (h : wC fs out c25_19 s fun e s1 => Q (if e = .exit 1 then .normal else e) s1) : wC fs out c25_18 s Q := wC_block h
def o25_26 : List (Nat × AOper) := (0, ⟨some 25, .bin .add (.t 13) (.k (.v (.one (.int .i64 1)))), none⟩) ::
   (1, ⟨some 13, .mov (.t 25), none⟩) ::
   []
theorem h25_26 : wS fs out b o25_26 t h R = (wV fs out (b + 0) noT h (.bin .add (.k (t 13)) (.k (.v (.one (.int .i64 1))))) fun x25_0 h => wV fs out (b + 1) noT h (.mov (.k x25_0)) fun x13_1 h => R ⟨(upd (upd t 25 x25_0) 13 x13_1), h⟩) := by kernel_rfl
def c25_26 : ACode := .region (o25_26.map (·.2)) [0, 1] []
theorem s25_26 (h : wS fs out s.h.nx o25_26 s.t ⟨s.h.o, s.h.nx + 2⟩ (Q .normal)) : wC fs out c25_26 s Q := wC_region rfl rfl h
def c25_17 : ACode := .seq c25_18 c25_26
theorem s25_17 (h : wC fs out c25_18 s fun e s1 => match e with | .normal => wC fs out c25_26 s1 Q | e => Q e s1) : wC fs out c25_17 s Q := wC_seq h
def c25_15 : ACode := .seq c25_16 c25_17
theorem s25_15 (h : onC (s.t 14) (wC fs out c25_17 (keepOnly [0, 1, 12, 13] s) Q) (Q (.exit 0) (keepOnly [0, 1, 12, 13] s))) : wC fs out c25_15 s Q := wC_seq (s25_16 h)
def c25_13 : ACode := .seq c25_14 c25_15
theorem s25_13 (h : wS fs out s.h.nx o25_14 s.t ⟨s.h.o, s.h.nx + 1⟩ fun s1 => wC fs out c25_15 s1 Q) : wC fs out c25_13 s Q := wC_seq (s25_14 h)
def c25_12 : ACode := .loop [0, 1, 12, 13] c25_13
theorem s25_12 (I : Nat → St → Prop) (n : Nat) (h0 : I n (keepOnly [0, 1, 12, 13] s)) (step : ∀ m s (Q' : AExit → St → Prop), I m s → (∀ m' s1, m' < m → I m' (keepOnly [0, 1, 12, 13] s1) → Q' .normal s1) → (∀ i s1, Q (.exit i) s1 → Q' (.exit i) s1) → (∀ s1, Q .ret s1 → Q' .ret s1) → wC fs out c25_13 s Q') : wC fs out c25_12 s Q := wC_loopQ I n h0 step
def c25_11 : ACode := .block 0 c25_12
theorem s25_11 (h : wC fs out c25_12 s fun e s1 => Q (if e = .exit 0 then .normal else e) s1) : wC fs out c25_11 s Q := wC_block h
def c25_9 : ACode := .seq c25_10 c25_11
theorem s25_9 (h : wS fs out s.h.nx o25_10 s.t ⟨s.h.o, s.h.nx + 3⟩ fun s1 => wC fs out c25_11 s1 Q) : wC fs out c25_9 s Q := wC_seq (s25_10 h)
def o25_28 : List (Nat × AOper) := (0, ⟨some 4, .mov (.k (.v (.one (.bool true)))), none⟩) ::
   []
theorem h25_28 : wS fs out b o25_28 t h R = (wV fs out (b + 0) noT h (.mov (.k (.v (.one (.bool true))))) fun x4_0 h => R ⟨(upd t 4 x4_0), h⟩) := by kernel_rfl
def c25_28 : ACode := .region (o25_28.map (·.2)) [0] []
theorem s25_28 (h : wS fs out s.h.nx o25_28 s.t ⟨s.h.o, s.h.nx + 1⟩ (Q .normal)) : wC fs out c25_28 s Q := wC_region rfl rfl h
def c25_27 : ACode := .seq c25_28 .ret
theorem s25_27 (h : wS fs out s.h.nx o25_28 s.t ⟨s.h.o, s.h.nx + 1⟩ fun s1 => wC fs out .ret s1 Q) : wC fs out c25_27 s Q := wC_seq (s25_28 h)
def c25_8 : ACode := .seq c25_9 c25_27
theorem s25_8 (h : wC fs out c25_9 s fun e s1 => match e with | .normal => wC fs out c25_27 s1 Q | e => Q e s1) : wC fs out c25_8 s Q := wC_seq h
def c25_2 : ACode := .seq c25_3 c25_8
theorem s25_2 (h : wC fs out c25_3 s fun e s1 => match e with | .normal => wC fs out c25_8 s1 Q | e => Q e s1) : wC fs out c25_2 s Q := wC_seq h
def c25_0 : ACode := .seq c25_1 c25_2
theorem s25_0 (h : wS fs out s.h.nx o25_1 s.t ⟨s.h.o, s.h.nx + 1⟩ fun s1 => wC fs out c25_2 s1 Q) : wC fs out c25_0 s Q := wC_seq (s25_1 h)
def a25 : AFunc := ⟨2, [4], none, c25_0⟩
theorem t25 : tell Try.prog Try.f25 [([0, 1, 4], [], []), ([0, 1, 12, 13], [], []), ([0, 1, 12, 13], [], []), ([0, 1, 2, 3, 4, 5, 6, 7, 8], [], [0, 0, 3, 7, 0, 0, 48, 112, 255]), ([0, 1, 4, 12, 13], [], [])] = some a25 := by kernel_rfl
theorem ok25 : FuncOk Try.prog 25 a25 := tell_ok Try.func25 t25

/-- railplan/detector.sound -/
def o26_1 : List (Nat × AOper) := (0, ⟨some 1, .box 26 3 (.t 0), none⟩) ::
   (1, ⟨some 2, .mov (.k (.v (.one (.bool false)))), none⟩) ::
   []
theorem h26_1 : wS fs out b o26_1 t h R = (wV fs out (b + 0) noT h (.box 26 3 (.k (t 0))) fun x1_0 h => wV fs out (b + 1) noT h (.mov (.k (.v (.one (.bool false))))) fun x2_1 h => R ⟨(upd (upd t 1 x1_0) 2 x2_1), h⟩) := by kernel_rfl
def c26_1 : ACode := .region (o26_1.map (·.2)) [0, 1] []
theorem s26_1 (h : wS fs out s.h.nx o26_1 s.t ⟨s.h.o, s.h.nx + 2⟩ (Q .normal)) : wC fs out c26_1 s Q := wC_region rfl rfl h
def o26_3_8 : List (Nat × AOper) := (24, ⟨some 27, .pick (.t 23) (.t 26) (.k (.v (.one (.bool false)))), none⟩) ::
   (25, ⟨some 2, .mov (.t 27), none⟩) ::
   []
theorem h26_3_8 : wS fs out b o26_3_8 t h R = (wV fs out (b + 24) noT h (.pick (.k (t 23)) (.k (t 26)) (.k (.v (.one (.bool false))))) fun x27_0 h => wV fs out (b + 25) noT h (.mov (.k x27_0)) fun x2_1 h => R ⟨(upd (upd t 27 x27_0) 2 x2_1), h⟩) := by kernel_rfl
def o26_3_7g : List (Nat × AOper) := (21, ⟨some 24, .fadr 1 (.t 1), none⟩) ::
   (22, ⟨some 25, .load none (.t 24), none⟩) ::
   (23, ⟨some 26, .bin .leq (.t 25) (.k (.v (.one (.int .i64 1600)))), none⟩) ::
   []
theorem h26_3_7g : wS fs out b o26_3_7g t h R = (wV fs out (b + 21) noT h (.fadr 1 (.k (t 1))) fun x24_0 h => wV fs out (b + 22) noT h (.load none (.k x24_0)) fun x25_1 h => wV fs out (b + 23) noT h (.bin .leq (.k x25_1) (.k (.v (.one (.int .i64 1600))))) fun x26_2 h => R ⟨(upd (upd (upd t 24 x24_0) 25 x25_1) 26 x26_2), h⟩) := by kernel_rfl
def o26_3_7 : List (Nat × AOper) := grp 23 true o26_3_7g o26_3_8
theorem w26_3_7 : wS fs out b o26_3_7 t h R = onG (t 23) true (wS fs out b o26_3_7g (upd t 23 (.v (.one (.bool true)))) h fun s => wS fs out b o26_3_8 s.t s.h R) (wS fs out b o26_3_8 (upd (upd (upd (upd t 23 (.v (.one (.bool false)))) 24 (.tup [])) 25 (.tup [])) 26 (.tup [])) h R) (wS fs out b o26_3_8 (upd (upd (upd t 24 (.tup [])) 25 (.tup [])) 26 (.tup [])) h R) := wS_grpE rfl
def o26_3_6 : List (Nat × AOper) := (19, ⟨some 22, .pick (.t 18) (.t 21) (.k (.v (.one (.bool false)))), none⟩) ::
   (20, ⟨some 23, .mov (.t 22), none⟩) ::
   o26_3_7
theorem h26_3_6 : wS fs out b o26_3_6 t h R = (wV fs out (b + 19) noT h (.pick (.k (t 18)) (.k (t 21)) (.k (.v (.one (.bool false))))) fun x22_0 h => wV fs out (b + 20) noT h (.mov (.k x22_0)) fun x23_1 h => wS fs out b o26_3_7 (upd (upd t 22 x22_0) 23 x23_1) h R) := by kernel_rfl
def o26_3_5g : List (Nat × AOper) := (16, ⟨some 19, .fadr 1 (.t 1), none⟩) ::
   (17, ⟨some 20, .load none (.t 19), none⟩) ::
   (18, ⟨some 21, .bin .geq (.t 20) (.k (.v (.one (.int .i64 0)))), none⟩) ::
   []
theorem h26_3_5g : wS fs out b o26_3_5g t h R = (wV fs out (b + 16) noT h (.fadr 1 (.k (t 1))) fun x19_0 h => wV fs out (b + 17) noT h (.load none (.k x19_0)) fun x20_1 h => wV fs out (b + 18) noT h (.bin .geq (.k x20_1) (.k (.v (.one (.int .i64 0))))) fun x21_2 h => R ⟨(upd (upd (upd t 19 x19_0) 20 x20_1) 21 x21_2), h⟩) := by kernel_rfl
def o26_3_5 : List (Nat × AOper) := grp 18 true o26_3_5g o26_3_6
theorem w26_3_5 : wS fs out b o26_3_5 t h R = onG (t 18) true (wS fs out b o26_3_5g (upd t 18 (.v (.one (.bool true)))) h fun s => wS fs out b o26_3_6 s.t s.h R) (wS fs out b o26_3_6 (upd (upd (upd (upd t 18 (.v (.one (.bool false)))) 19 (.tup [])) 20 (.tup [])) 21 (.tup [])) h R) (wS fs out b o26_3_6 (upd (upd (upd t 19 (.tup [])) 20 (.tup [])) 21 (.tup [])) h R) := wS_grpE rfl
def o26_3_4 : List (Nat × AOper) := (14, ⟨some 17, .pick (.t 11) (.t 16) (.k (.v (.one (.bool false)))), none⟩) ::
   (15, ⟨some 18, .mov (.t 17), none⟩) ::
   o26_3_5
theorem h26_3_4 : wS fs out b o26_3_4 t h R = (wV fs out (b + 14) noT h (.pick (.k (t 11)) (.k (t 16)) (.k (.v (.one (.bool false))))) fun x17_0 h => wV fs out (b + 15) noT h (.mov (.k x17_0)) fun x18_1 h => wS fs out b o26_3_5 (upd (upd t 17 x17_0) 18 x18_1) h R) := by kernel_rfl
def o26_3_3g : List (Nat × AOper) := (9, ⟨some 12, .fadr 1 (.t 1), none⟩) ::
   (10, ⟨some 13, .load none (.t 12), none⟩) ::
   (11, ⟨some 14, .fadr 2 (.t 1), none⟩) ::
   (12, ⟨some 15, .load none (.t 14), none⟩) ::
   (13, ⟨some 16, .bin .eql (.t 13) (.t 15), none⟩) ::
   []
theorem h26_3_3g : wS fs out b o26_3_3g t h R = (wV fs out (b + 9) noT h (.fadr 1 (.k (t 1))) fun x12_0 h => wV fs out (b + 10) noT h (.load none (.k x12_0)) fun x13_1 h => wV fs out (b + 11) noT h (.fadr 2 (.k (t 1))) fun x14_2 h => wV fs out (b + 12) noT h (.load none (.k x14_2)) fun x15_3 h => wV fs out (b + 13) noT h (.bin .eql (.k x13_1) (.k x15_3)) fun x16_4 h => R ⟨(upd (upd (upd (upd (upd t 12 x12_0) 13 x13_1) 14 x14_2) 15 x15_3) 16 x16_4), h⟩) := by kernel_rfl
def o26_3_3 : List (Nat × AOper) := grp 11 true o26_3_3g o26_3_4
theorem w26_3_3 : wS fs out b o26_3_3 t h R = onG (t 11) true (wS fs out b o26_3_3g (upd t 11 (.v (.one (.bool true)))) h fun s => wS fs out b o26_3_4 s.t s.h R) (wS fs out b o26_3_4 (upd (upd (upd (upd (upd (upd t 11 (.v (.one (.bool false)))) 12 (.tup [])) 13 (.tup [])) 14 (.tup [])) 15 (.tup [])) 16 (.tup [])) h R) (wS fs out b o26_3_4 (upd (upd (upd (upd (upd t 12 (.tup [])) 13 (.tup [])) 14 (.tup [])) 15 (.tup [])) 16 (.tup [])) h R) := wS_grpE rfl
def o26_3_2 : List (Nat × AOper) := (7, ⟨some 10, .pick (.t 6) (.k (.v (.one (.bool true)))) (.t 9), none⟩) ::
   (8, ⟨some 11, .mov (.t 10), none⟩) ::
   o26_3_3
theorem h26_3_2 : wS fs out b o26_3_2 t h R = (wV fs out (b + 7) noT h (.pick (.k (t 6)) (.k (.v (.one (.bool true)))) (.k (t 9))) fun x10_0 h => wV fs out (b + 8) noT h (.mov (.k x10_0)) fun x11_1 h => wS fs out b o26_3_3 (upd (upd t 10 x10_0) 11 x11_1) h R) := by kernel_rfl
def o26_3_1g : List (Nat × AOper) := (4, ⟨some 7, .fadr 0 (.t 1), none⟩) ::
   (5, ⟨some 8, .load none (.t 7), none⟩) ::
   (6, ⟨some 9, .bin .eql (.t 8) (.k (.v (.one (.int .i64 2)))), none⟩) ::
   []
theorem h26_3_1g : wS fs out b o26_3_1g t h R = (wV fs out (b + 4) noT h (.fadr 0 (.k (t 1))) fun x7_0 h => wV fs out (b + 5) noT h (.load none (.k x7_0)) fun x8_1 h => wV fs out (b + 6) noT h (.bin .eql (.k x8_1) (.k (.v (.one (.int .i64 2))))) fun x9_2 h => R ⟨(upd (upd (upd t 7 x7_0) 8 x8_1) 9 x9_2), h⟩) := by kernel_rfl
def o26_3_1 : List (Nat × AOper) := grp 6 false o26_3_1g o26_3_2
theorem w26_3_1 : wS fs out b o26_3_1 t h R = onG (t 6) false (wS fs out b o26_3_1g (upd t 6 (.v (.one (.bool false)))) h fun s => wS fs out b o26_3_2 s.t s.h R) (wS fs out b o26_3_2 (upd (upd (upd (upd t 6 (.v (.one (.bool true)))) 7 (.tup [])) 8 (.tup [])) 9 (.tup [])) h R) (wS fs out b o26_3_2 (upd (upd (upd t 7 (.tup [])) 8 (.tup [])) 9 (.tup [])) h R) := wS_grpE rfl
def o26_3 : List (Nat × AOper) := (0, ⟨some 3, .fadr 0 (.t 1), none⟩) ::
   (1, ⟨some 4, .load none (.t 3), none⟩) ::
   (2, ⟨some 5, .bin .eql (.t 4) (.k (.v (.one (.int .i64 0)))), none⟩) ::
   (3, ⟨some 6, .mov (.t 5), none⟩) ::
   o26_3_1
theorem h26_3 : wS fs out b o26_3 t h R = (wV fs out (b + 0) noT h (.fadr 0 (.k (t 1))) fun x3_0 h => wV fs out (b + 1) noT h (.load none (.k x3_0)) fun x4_1 h => wV fs out (b + 2) noT h (.bin .eql (.k x4_1) (.k (.v (.one (.int .i64 0))))) fun x5_2 h => wV fs out (b + 3) noT h (.mov (.k x5_2)) fun x6_3 h => wS fs out b o26_3_1 (upd (upd (upd (upd t 3 x3_0) 4 x4_1) 5 x5_2) 6 x6_3) h R) := by kernel_rfl
def c26_3 : ACode := .region (o26_3.map (·.2)) [0, 1, 2, 3, 4, 5, 6, 7, 8, 9, 10, 11, 12, 13, 14, 15, 16, 17, 18, 19, 20, 21, 22, 23, 24, 25] []
theorem s26_3 (h : wS fs out s.h.nx o26_3 s.t ⟨s.h.o, s.h.nx + 26⟩ (Q .normal)) : wC fs out c26_3 s Q := wC_region rfl rfl h
def c26_2 : ACode := .seq c26_3 .ret
theorem s26_2 (h : wS fs out s.h.nx o26_3 s.t ⟨s.h.o, s.h.nx + 26⟩ fun s1 => wC fs out .ret s1 Q) : wC fs out c26_2 s Q := wC_seq (s26_3 h)
def c26_0 : ACode := .seq c26_1 c26_2
theorem s26_0 (h : wS fs out s.h.nx o26_1 s.t ⟨s.h.o, s.h.nx + 2⟩ fun s1 => wC fs out c26_2 s1 Q) : wC fs out c26_0 s Q := wC_seq (s26_1 h)
def a26 : AFunc := ⟨1, [2], none, c26_0⟩
theorem t26 : tell Try.prog Try.f26 [] = some a26 := by kernel_rfl
theorem ok26 : FuncOk Try.prog 26 a26 := tell_ok Try.func26 t26

/-- railplan/detector.clean -/
def o27_1 : List (Nat × AOper) := (0, ⟨some 1, .box 31 4 (.t 0), none⟩) ::
   (1, ⟨some 2, .mov (.k (.v (.one (.bool false)))), none⟩) ::
   []
theorem h27_1 : wS fs out b o27_1 t h R = (wV fs out (b + 0) noT h (.box 31 4 (.k (t 0))) fun x1_0 h => wV fs out (b + 1) noT h (.mov (.k (.v (.one (.bool false))))) fun x2_1 h => R ⟨(upd (upd t 1 x1_0) 2 x2_1), h⟩) := by kernel_rfl
def c27_1 : ACode := .region (o27_1.map (·.2)) [0, 1] []
theorem s27_1 (h : wS fs out s.h.nx o27_1 s.t ⟨s.h.o, s.h.nx + 2⟩ (Q .normal)) : wC fs out c27_1 s Q := wC_region rfl rfl h
def o27_3_4 : List (Nat × AOper) := (14, ⟨some 17, .pick (.t 13) (.t 16) (.k (.v (.one (.bool false)))), none⟩) ::
   (15, ⟨some 2, .mov (.t 17), none⟩) ::
   []
theorem h27_3_4 : wS fs out b o27_3_4 t h R = (wV fs out (b + 14) noT h (.pick (.k (t 13)) (.k (t 16)) (.k (.v (.one (.bool false))))) fun x17_0 h => wV fs out (b + 15) noT h (.mov (.k x17_0)) fun x2_1 h => R ⟨(upd (upd t 17 x17_0) 2 x2_1), h⟩) := by kernel_rfl
def o27_3_3g : List (Nat × AOper) := (11, ⟨some 14, .fadr 2 (.t 1), none⟩) ::
   (12, ⟨some 15, .load none (.t 14), none⟩) ::
   (13, ⟨some 16, .bin .leq (.t 15) (.k (.v (.one (.int .i64 400)))), none⟩) ::
   []
theorem h27_3_3g : wS fs out b o27_3_3g t h R = (wV fs out (b + 11) noT h (.fadr 2 (.k (t 1))) fun x14_0 h => wV fs out (b + 12) noT h (.load none (.k x14_0)) fun x15_1 h => wV fs out (b + 13) noT h (.bin .leq (.k x15_1) (.k (.v (.one (.int .i64 400))))) fun x16_2 h => R ⟨(upd (upd (upd t 14 x14_0) 15 x15_1) 16 x16_2), h⟩) := by kernel_rfl
def o27_3_3 : List (Nat × AOper) := grp 13 true o27_3_3g o27_3_4
theorem w27_3_3 : wS fs out b o27_3_3 t h R = onG (t 13) true (wS fs out b o27_3_3g (upd t 13 (.v (.one (.bool true)))) h fun s => wS fs out b o27_3_4 s.t s.h R) (wS fs out b o27_3_4 (upd (upd (upd (upd t 13 (.v (.one (.bool false)))) 14 (.tup [])) 15 (.tup [])) 16 (.tup [])) h R) (wS fs out b o27_3_4 (upd (upd (upd t 14 (.tup [])) 15 (.tup [])) 16 (.tup [])) h R) := wS_grpE rfl
def o27_3_2 : List (Nat × AOper) := (9, ⟨some 12, .pick (.t 8) (.t 11) (.k (.v (.one (.bool false)))), none⟩) ::
   (10, ⟨some 13, .mov (.t 12), none⟩) ::
   o27_3_3
theorem h27_3_2 : wS fs out b o27_3_2 t h R = (wV fs out (b + 9) noT h (.pick (.k (t 8)) (.k (t 11)) (.k (.v (.one (.bool false))))) fun x12_0 h => wV fs out (b + 10) noT h (.mov (.k x12_0)) fun x13_1 h => wS fs out b o27_3_3 (upd (upd t 12 x12_0) 13 x13_1) h R) := by kernel_rfl
def o27_3_1g : List (Nat × AOper) := (6, ⟨some 9, .fadr 2 (.t 1), none⟩) ::
   (7, ⟨some 10, .load none (.t 9), none⟩) ::
   (8, ⟨some 11, .bin .geq (.t 10) (.k (.v (.one (.int .i64 1)))), none⟩) ::
   []
theorem h27_3_1g : wS fs out b o27_3_1g t h R = (wV fs out (b + 6) noT h (.fadr 2 (.k (t 1))) fun x9_0 h => wV fs out (b + 7) noT h (.load none (.k x9_0)) fun x10_1 h => wV fs out (b + 8) noT h (.bin .geq (.k x10_1) (.k (.v (.one (.int .i64 1))))) fun x11_2 h => R ⟨(upd (upd (upd t 9 x9_0) 10 x10_1) 11 x11_2), h⟩) := by kernel_rfl
def o27_3_1 : List (Nat × AOper) := grp 8 true o27_3_1g o27_3_2
theorem w27_3_1 : wS fs out b o27_3_1 t h R = onG (t 8) true (wS fs out b o27_3_1g (upd t 8 (.v (.one (.bool true)))) h fun s => wS fs out b o27_3_2 s.t s.h R) (wS fs out b o27_3_2 (upd (upd (upd (upd t 8 (.v (.one (.bool false)))) 9 (.tup [])) 10 (.tup [])) 11 (.tup [])) h R) (wS fs out b o27_3_2 (upd (upd (upd t 9 (.tup [])) 10 (.tup [])) 11 (.tup [])) h R) := wS_grpE rfl
def o27_3 : List (Nat × AOper) := (0, ⟨some 3, .fadr 2 (.t 1), none⟩) ::
   (1, ⟨some 4, .load none (.t 3), none⟩) ::
   (2, ⟨some 5, .fadr 3 (.t 1), none⟩) ::
   (3, ⟨some 6, .load none (.t 5), none⟩) ::
   (4, ⟨some 7, .bin .eql (.t 4) (.t 6), none⟩) ::
   (5, ⟨some 8, .mov (.t 7), none⟩) ::
   o27_3_1
theorem h27_3 : wS fs out b o27_3 t h R = (wV fs out (b + 0) noT h (.fadr 2 (.k (t 1))) fun x3_0 h => wV fs out (b + 1) noT h (.load none (.k x3_0)) fun x4_1 h => wV fs out (b + 2) noT h (.fadr 3 (.k (t 1))) fun x5_2 h => wV fs out (b + 3) noT h (.load none (.k x5_2)) fun x6_3 h => wV fs out (b + 4) noT h (.bin .eql (.k x4_1) (.k x6_3)) fun x7_4 h => wV fs out (b + 5) noT h (.mov (.k x7_4)) fun x8_5 h => wS fs out b o27_3_1 (upd (upd (upd (upd (upd (upd t 3 x3_0) 4 x4_1) 5 x5_2) 6 x6_3) 7 x7_4) 8 x8_5) h R) := by kernel_rfl
def c27_3 : ACode := .region (o27_3.map (·.2)) [0, 1, 2, 3, 4, 5, 6, 7, 8, 9, 10, 11, 12, 13, 14, 15] []
theorem s27_3 (h : wS fs out s.h.nx o27_3 s.t ⟨s.h.o, s.h.nx + 16⟩ (Q .normal)) : wC fs out c27_3 s Q := wC_region rfl rfl h
def c27_2 : ACode := .seq c27_3 .ret
theorem s27_2 (h : wS fs out s.h.nx o27_3 s.t ⟨s.h.o, s.h.nx + 16⟩ fun s1 => wC fs out .ret s1 Q) : wC fs out c27_2 s Q := wC_seq (s27_3 h)
def c27_0 : ACode := .seq c27_1 c27_2
theorem s27_0 (h : wS fs out s.h.nx o27_1 s.t ⟨s.h.o, s.h.nx + 2⟩ fun s1 => wC fs out c27_2 s1 Q) : wC fs out c27_0 s Q := wC_seq (s27_1 h)
def a27 : AFunc := ⟨1, [2], none, c27_0⟩
theorem t27 : tell Try.prog Try.f27 [] = some a27 := by kernel_rfl
theorem ok27 : FuncOk Try.prog 27 a27 := tell_ok Try.func27 t27

end Go.Proofs.Ytellgcahkpaldaa.Fn
