/- Functions of the program, as the abstract machine's, and that they are. Conditions: none. -/
import Derived.Test.YthoicdnlcnppgaaAmCo
import Derived.Test.YthoicdnlcnppgaaAmEv
import Derived.Test.YthoicdnlcnppgaaProg
set_option linter.unusedVariables false
set_option linter.unusedSimpArgs false
namespace Go.Proofs.Ythoicdnlcnppgaa.Fn
open Go Go.Am
set_option maxRecDepth 100000
variable {fs : Nat → Option AFunc} {out : Rec} {s : St} {Q : AExit → St → Prop} {b : Nat} {t : Nat → T} {h : AH} {R : St → Prop}
/-- railplan/railplanref30.CheckDelay -/
def o23_1 : List (Nat × AOper) := (0, ⟨some 6, .mov (.k (.v (.one (.bool false)))), none⟩) ::
   []
theorem h23_1 : wS fs out b o23_1 t h R = (wV fs out (b + 0) noT h (.mov (.k (.v (.one (.bool false))))) fun x6_0 h => R ⟨(upd t 6 x6_0), h⟩) := by kernel_rfl
def c23_1 : ACode := .region (o23_1.map (·.2)) [0] []
theorem s23_1 (h : wS fs out s.h.nx o23_1 s.t ⟨s.h.o, s.h.nx + 1⟩ (Q .normal)) : wC fs out c23_1 s Q := wC_region rfl rfl h
def o23_3 : List (Nat × AOper) := (0, ⟨some 18, .mov (.t 0), none⟩) ::
   (1, ⟨some 19, .len (.t 18), none⟩) ::
   (2, ⟨some 7, .mov (.t 19), none⟩) ::
   []
theorem h23_3 : wS fs out b o23_3 t h R = (wV fs out (b + 0) noT h (.mov (.k (t 0))) fun x18_0 h => wV fs out (b + 1) noT h (.len (.k x18_0)) fun x19_1 h => wV fs out (b + 2) noT h (.mov (.k x19_1)) fun x7_2 h => R ⟨(upd (upd (upd t 18 x18_0) 19 x19_1) 7 x7_2), h⟩) := by kernel_rfl
def c23_3 : ACode := .region (o23_3.map (·.2)) [0, 1, 2] []
theorem s23_3 (h : wS fs out s.h.nx o23_3 s.t ⟨s.h.o, s.h.nx + 3⟩ (Q .normal)) : wC fs out c23_3 s Q := wC_region rfl rfl h
def o23_6_4 : List (Nat × AOper) := (11, ⟨some 31, .pick (.t 27) (.k (.v (.one (.bool true)))) (.t 30), none⟩) ::
   []
theorem h23_6_4 : wS fs out b o23_6_4 t h R = (wV fs out (b + 11) noT h (.pick (.k (t 27)) (.k (.v (.one (.bool true)))) (.k (t 30))) fun x31_0 h => R ⟨(upd t 31 x31_0), h⟩) := by kernel_rfl
def o23_6_3g : List (Nat × AOper) := (8, ⟨some 28, .mov (.t 2), none⟩) ::
   (9, ⟨some 29, .len (.t 28), none⟩) ::
   (10, ⟨some 30, .bin .gtr (.t 29) (.k (.v (.one (.int .i64 64)))), none⟩) ::
   []
theorem h23_6_3g : wS fs out b o23_6_3g t h R = (wV fs out (b + 8) noT h (.mov (.k (t 2))) fun x28_0 h => wV fs out (b + 9) noT h (.len (.k x28_0)) fun x29_1 h => wV fs out (b + 10) noT h (.bin .gtr (.k x29_1) (.k (.v (.one (.int .i64 64))))) fun x30_2 h => R ⟨(upd (upd (upd t 28 x28_0) 29 x29_1) 30 x30_2), h⟩) := by kernel_rfl
def o23_6_3 : List (Nat × AOper) := grp 27 false o23_6_3g o23_6_4
theorem w23_6_3 : wS fs out b o23_6_3 t h R = onG (t 27) false (wS fs out b o23_6_3g (upd t 27 (.v (.one (.bool false)))) h fun s => wS fs out b o23_6_4 s.t s.h R) (wS fs out b o23_6_4 (upd (upd (upd (upd t 27 (.v (.one (.bool true)))) 28 (.tup [])) 29 (.tup [])) 30 (.tup [])) h R) (wS fs out b o23_6_4 (upd (upd (upd t 28 (.tup [])) 29 (.tup [])) 30 (.tup [])) h R) := wS_grpE rfl
def o23_6_2 : List (Nat × AOper) := (6, ⟨some 26, .pick (.t 22) (.k (.v (.one (.bool true)))) (.t 25), none⟩) ::
   (7, ⟨some 27, .mov (.t 26), none⟩) ::
   o23_6_3
theorem h23_6_2 : wS fs out b o23_6_2 t h R = (wV fs out (b + 6) noT h (.pick (.k (t 22)) (.k (.v (.one (.bool true)))) (.k (t 25))) fun x26_0 h => wV fs out (b + 7) noT h (.mov (.k x26_0)) fun x27_1 h => wS fs out b o23_6_3 (upd (upd t 26 x26_0) 27 x27_1) h R) := by kernel_rfl
def o23_6_1g : List (Nat × AOper) := (3, ⟨some 23, .mov (.t 1), none⟩) ::
   (4, ⟨some 24, .len (.t 23), none⟩) ::
   (5, ⟨some 25, .bin .gtr (.t 24) (.k (.v (.one (.int .i64 200)))), none⟩) ::
   []
theorem h23_6_1g : wS fs out b o23_6_1g t h R = (wV fs out (b + 3) noT h (.mov (.k (t 1))) fun x23_0 h => wV fs out (b + 4) noT h (.len (.k x23_0)) fun x24_1 h => wV fs out (b + 5) noT h (.bin .gtr (.k x24_1) (.k (.v (.one (.int .i64 200))))) fun x25_2 h => R ⟨(upd (upd (upd t 23 x23_0) 24 x24_1) 25 x25_2), h⟩) := by kernel_rfl
def o23_6_1 : List (Nat × AOper) := grp 22 false o23_6_1g o23_6_2
theorem w23_6_1 : wS fs out b o23_6_1 t h R = onG (t 22) false (wS fs out b o23_6_1g (upd t 22 (.v (.one (.bool false)))) h fun s => wS fs out b o23_6_2 s.t s.h R) (wS fs out b o23_6_2 (upd (upd (upd (upd t 22 (.v (.one (.bool true)))) 23 (.tup [])) 24 (.tup [])) 25 (.tup [])) h R) (wS fs out b o23_6_2 (upd (upd (upd t 23 (.tup [])) 24 (.tup [])) 25 (.tup [])) h R) := wS_grpE rfl
def o23_6 : List (Nat × AOper) := (0, ⟨some 20, .mov (.t 7), none⟩) ::
   (1, ⟨some 21, .bin .gtr (.t 20) (.k (.v (.one (.int .i64 64)))), none⟩) ::
   (2, ⟨some 22, .mov (.t 21), none⟩) ::
   o23_6_1
theorem h23_6 : wS fs out b o23_6 t h R = (wV fs out (b + 0) noT h (.mov (.k (t 7))) fun x20_0 h => wV fs out (b + 1) noT h (.bin .gtr (.k x20_0) (.k (.v (.one (.int .i64 64))))) fun x21_1 h => wV fs out (b + 2) noT h (.mov (.k x21_1)) fun x22_2 h => wS fs out b o23_6_1 (upd (upd (upd t 20 x20_0) 21 x21_1) 22 x22_2) h R) := by kernel_rfl
def c23_6 : ACode := .region (o23_6.map (·.2)) [0, 1, 2, 3, 4, 5, 6, 7, 8, 9, 10, 11] []
theorem s23_6 (h : wS fs out s.h.nx o23_6 s.t ⟨s.h.o, s.h.nx + 12⟩ (Q .normal)) : wC fs out c23_6 s Q := wC_region rfl rfl h
def o23_9 : List (Nat × AOper) := (0, ⟨some 6, .mov (.k (.v (.one (.bool false)))), none⟩) ::
   []
theorem h23_9 : wS fs out b o23_9 t h R = (wV fs out (b + 0) noT h (.mov (.k (.v (.one (.bool false))))) fun x6_0 h => R ⟨(upd t 6 x6_0), h⟩) := by kernel_rfl
def c23_9 : ACode := .region (o23_9.map (·.2)) [0] []
theorem s23_9 (h : wS fs out s.h.nx o23_9 s.t ⟨s.h.o, s.h.nx + 1⟩ (Q .normal)) : wC fs out c23_9 s Q := wC_region rfl rfl h
def c23_8 : ACode := .seq c23_9 .ret
theorem s23_8 (h : wS fs out s.h.nx o23_9 s.t ⟨s.h.o, s.h.nx + 1⟩ fun s1 => wC fs out .ret s1 Q) : wC fs out c23_8 s Q := wC_seq (s23_9 h)
def c23_7 : ACode := .cond (.t 31) c23_8 .skip [0, 1, 2, 6, 7]
theorem s23_7 (h : onC (s.t 31) (wC fs out c23_8 s fun e s1 => Q e (keepOnly [0, 1, 2, 6, 7] s1)) (Q .normal (keepOnly [0, 1, 2, 6, 7] s))) : wC fs out c23_7 s Q := wC_condC (by first | exact h | (simp only [wC_skip, wC_exit, wC_ret]; exact h))
def c23_5 : ACode := .seq c23_6 c23_7
theorem s23_5 (h : wS fs out s.h.nx o23_6 s.t ⟨s.h.o, s.h.nx + 12⟩ fun s1 => wC fs out c23_7 s1 Q) : wC fs out c23_5 s Q := wC_seq (s23_6 h)
def o23_12 : List (Nat × AOper) := (0, ⟨some 32, .mov (.t 0), none⟩) ::
   (1, ⟨some 33, .len (.t 32), none⟩) ::
   (2, ⟨some 34, .mov (.k (.v (.one (.int .i64 0)))), none⟩) ::
   []
theorem h23_12 : wS fs out b o23_12 t h R = (wV fs out (b + 0) noT h (.mov (.k (t 0))) fun x32_0 h => wV fs out (b + 1) noT h (.len (.k x32_0)) fun x33_1 h => wV fs out (b + 2) noT h (.mov (.k (.v (.one (.int .i64 0))))) fun x34_2 h => R ⟨(upd (upd (upd t 32 x32_0) 33 x33_1) 34 x34_2), h⟩) := by kernel_rfl
def c23_12 : ACode := .region (o23_12.map (·.2)) [0, 1, 2] []
theorem s23_12 (h : wS fs out s.h.nx o23_12 s.t ⟨s.h.o, s.h.nx + 3⟩ (Q .normal)) : wC fs out c23_12 s Q := wC_region rfl rfl h
def o23_16 : List (Nat × AOper) := (0, ⟨some 35, .bin .lss (.t 34) (.t 33), none⟩) ::
   []
theorem h23_16 : wS fs out b o23_16 t h R = (wV fs out (b + 0) noT h (.bin .lss (.k (t 34)) (.k (t 33))) fun x35_0 h => R ⟨(upd t 35 x35_0), h⟩) := by kernel_rfl
def c23_16 : ACode := .region (o23_16.map (·.2)) [0] []
theorem s23_16 (h : wS fs out s.h.nx o23_16 s.t ⟨s.h.o, s.h.nx + 1⟩ (Q .normal)) : wC fs out c23_16 s Q := wC_region rfl rfl h
def c23_18 : ACode := .cond (.t 35) .skip (.exit 0) [1, 2, 7, 32, 33, 34]
theorem s23_18 (h : onC (s.t 35) (Q .normal (keepOnly [1, 2, 7, 32, 33, 34] s)) (Q (.exit 0) (keepOnly [1, 2, 7, 32, 33, 34] s))) : wC fs out c23_18 s Q := wC_condC (by first | exact h | (simp only [wC_skip, wC_exit, wC_ret]; exact h))
def o23_22 : List (Nat × AOper) := (0, ⟨some 36, .iadr 2 (.t 32) (.t 34), none⟩) ::
   (1, ⟨some 37, .load (some 2) (.t 36), none⟩) ::
   (2, ⟨some 9, .new 33 [(.int .i64 0), (.bool false)], none⟩) ::
   (3, ⟨none, .store 2 (.t 9) (.t 37), none⟩) ::
   []
theorem h23_22 : wS fs out b o23_22 t h R = (wV fs out (b + 0) noT h (.iadr 2 (.k (t 32)) (.k (t 34))) fun x36_0 h => wV fs out (b + 1) noT h (.load (some 2) (.k x36_0)) fun x37_1 h => wV fs out (b + 2) noT h (.new 33 [(.int .i64 0), (.bool false)]) fun x9_2 h => wV fs out (b + 3) noT h (.store 2 (.k x9_2) (.k x37_1)) fun _ h => R ⟨(upd (upd (upd t 36 x36_0) 37 x37_1) 9 x9_2), h⟩) := by kernel_rfl
def c23_22 : ACode := .region (o23_22.map (·.2)) [0, 1, 2, 3] []
theorem s23_22 (h : wS fs out s.h.nx o23_22 s.t ⟨s.h.o, s.h.nx + 4⟩ (Q .normal)) : wC fs out c23_22 s Q := wC_region rfl rfl h
def o23_24_2 : List (Nat × AOper) := (7, ⟨some 45, .pick (.t 41) (.k (.v (.one (.bool true)))) (.t 44), none⟩) ::
   []
theorem h23_24_2 : wS fs out b o23_24_2 t h R = (wV fs out (b + 7) noT h (.pick (.k (t 41)) (.k (.v (.one (.bool true)))) (.k (t 44))) fun x45_0 h => R ⟨(upd t 45 x45_0), h⟩) := by kernel_rfl
def o23_24_1g : List (Nat × AOper) := (4, ⟨some 42, .fadr 0 (.t 9), none⟩) ::
   (5, ⟨some 43, .load none (.t 42), none⟩) ::
   (6, ⟨some 44, .bin .gtr (.t 43) (.k (.v (.one (.int .i64 4194304)))), none⟩) ::
   []
theorem h23_24_1g : wS fs out b o23_24_1g t h R = (wV fs out (b + 4) noT h (.fadr 0 (.k (t 9))) fun x42_0 h => wV fs out (b + 5) noT h (.load none (.k x42_0)) fun x43_1 h => wV fs out (b + 6) noT h (.bin .gtr (.k x43_1) (.k (.v (.one (.int .i64 4194304))))) fun x44_2 h => R ⟨(upd (upd (upd t 42 x42_0) 43 x43_1) 44 x44_2), h⟩) := by kernel_rfl
def o23_24_1 : List (Nat × AOper) := grp 41 false o23_24_1g o23_24_2
theorem w23_24_1 : wS fs out b o23_24_1 t h R = onG (t 41) false (wS fs out b o23_24_1g (upd t 41 (.v (.one (.bool false)))) h fun s => wS fs out b o23_24_2 s.t s.h R) (wS fs out b o23_24_2 (upd (upd (upd (upd t 41 (.v (.one (.bool true)))) 42 (.tup [])) 43 (.tup [])) 44 (.tup [])) h R) (wS fs out b o23_24_2 (upd (upd (upd t 42 (.tup [])) 43 (.tup [])) 44 (.tup [])) h R) := wS_grpE rfl
def o23_24 : List (Nat × AOper) := (0, ⟨some 38, .fadr 0 (.t 9), none⟩) ::
   (1, ⟨some 39, .load none (.t 38), none⟩) ::
   (2, ⟨some 40, .bin .lss (.t 39) (.k (.v (.one (.int .i64 0)))), none⟩) ::
   (3, ⟨some 41, .mov (.t 40), none⟩) ::
   o23_24_1
theorem h23_24 : wS fs out b o23_24 t h R = (wV fs out (b + 0) noT h (.fadr 0 (.k (t 9))) fun x38_0 h => wV fs out (b + 1) noT h (.load none (.k x38_0)) fun x39_1 h => wV fs out (b + 2) noT h (.bin .lss (.k x39_1) (.k (.v (.one (.int .i64 0))))) fun x40_2 h => wV fs out (b + 3) noT h (.mov (.k x40_2)) fun x41_3 h => wS fs out b o23_24_1 (upd (upd (upd (upd t 38 x38_0) 39 x39_1) 40 x40_2) 41 x41_3) h R) := by kernel_rfl
def c23_24 : ACode := .region (o23_24.map (·.2)) [0, 1, 2, 3, 4, 5, 6, 7] []
theorem s23_24 (h : wS fs out s.h.nx o23_24 s.t ⟨s.h.o, s.h.nx + 8⟩ (Q .normal)) : wC fs out c23_24 s Q := wC_region rfl rfl h
def o23_27 : List (Nat × AOper) := (0, ⟨some 6, .mov (.k (.v (.one (.bool false)))), none⟩) ::
   []
theorem h23_27 : wS fs out b o23_27 t h R = (wV fs out (b + 0) noT h (.mov (.k (.v (.one (.bool false))))) fun x6_0 h => R ⟨(upd t 6 x6_0), h⟩) := by kernel_rfl
def c23_27 : ACode := .region (o23_27.map (·.2)) [0] []
theorem s23_27 (h : wS fs out s.h.nx o23_27 s.t ⟨s.h.o, s.h.nx + 1⟩ (Q .normal)) : wC fs out c23_27 s Q := wC_region rfl rfl h
def c23_26 : ACode := .seq c23_27 .ret
theorem s23_26 (h : wS fs out s.h.nx o23_27 s.t ⟨s.h.o, s.h.nx + 1⟩ fun s1 => wC fs out .ret s1 Q) : wC fs out c23_26 s Q := wC_seq (s23_27 h)
def c23_25 : ACode := .cond (.t 45) c23_26 .skip [1, 2, 6, 7, 32, 33, 34]
theorem s23_25 (h : onC (s.t 45) (wC fs out c23_26 s fun e s1 => Q e (keepOnly [1, 2, 6, 7, 32, 33, 34] s1)) (Q .normal (keepOnly [1, 2, 6, 7, 32, 33, 34] s))) : wC fs out c23_25 s Q := wC_condC (by first | exact h | (simp only [wC_skip, wC_exit, wC_ret]; exact h))
def c23_23 : ACode := .seq c23_24 c23_25
theorem s23_23 (h : wS fs out s.h.nx o23_24 s.t ⟨s.h.o, s.h.nx + 8⟩ fun s1 => wC fs out c23_25 s1 Q) : wC fs out c23_23 s Q := wC_seq (s23_24 h)
def c23_21 : ACode := .seq c23_22 c23_23
theorem s23_21 (h : wS fs out s.h.nx o23_22 s.t ⟨s.h.o, s.h.nx + 4⟩ fun s1 => wC fs out c23_23 s1 Q) : wC fs out c23_21 s Q := wC_seq (s23_22 h)
def c23_20 : ACode := .block 1 c23_21
theorem s23_20 (h : wC fs out c23_21 s fun e s1 => Q (if e = .exit 1 then .normal else e) s1) : wC fs out c23_20 s Q := wC_block h
def o23_28 : List (Nat × AOper) := (0, ⟨some 46, .bin .add (.t 34) (.k (.v (.one (.int .i64 1)))), none⟩) ::
   (1, ⟨some 34, .mov (.t 46), none⟩) ::
   []
theorem h23_28 : wS fs out b o23_28 t h R = (wV fs out (b + 0) noT h (.bin .add (.k (t 34)) (.k (.v (.one (.int .i64 1))))) fun x46_0 h => wV fs out (b + 1) noT h (.mov (.k x46_0)) fun x34_1 h => R ⟨(upd (upd t 46 x46_0) 34 x34_1), h⟩) := by kernel_rfl
def c23_28 : ACode := .region (o23_28.map (·.2)) [0, 1] []
theorem s23_28 (h : wS fs out s.h.nx o23_28 s.t ⟨s.h.o, s.h.nx + 2⟩ (Q .normal)) : wC fs out c23_28 s Q := wC_region rfl rfl h
def c23_19 : ACode := .seq c23_20 c23_28
theorem s23_19 (h : wC fs out c23_20 s fun e s1 => match e with | .normal => wC fs out c23_28 s1 Q | e => Q e s1) : wC fs out c23_19 s Q := wC_seq h
def c23_17 : ACode := .seq c23_18 c23_19
theorem s23_17 (h : onC (s.t 35) (wC fs out c23_19 (keepOnly [1, 2, 7, 32, 33, 34] s) Q) (Q (.exit 0) (keepOnly [1, 2, 7, 32, 33, 34] s))) : wC fs out c23_17 s Q := wC_seq (s23_18 h)
def c23_15 : ACode := .seq c23_16 c23_17
theorem s23_15 (h : wS fs out s.h.nx o23_16 s.t ⟨s.h.o, s.h.nx + 1⟩ fun s1 => wC fs out c23_17 s1 Q) : wC fs out c23_15 s Q := wC_seq (s23_16 h)
def c23_14 : ACode := .loop [1, 2, 7, 32, 33, 34] c23_15
theorem s23_14 (I : Nat → St → Prop) (n : Nat) (h0 : I n (keepOnly [1, 2, 7, 32, 33, 34] s)) (step : ∀ m s (Q' : AExit → St → Prop), I m s → (∀ m' s1, m' < m → I m' (keepOnly [1, 2, 7, 32, 33, 34] s1) → Q' .normal s1) → (∀ i s1, Q (.exit i) s1 → Q' (.exit i) s1) → (∀ s1, Q .ret s1 → Q' .ret s1) → wC fs out c23_15 s Q') : wC fs out c23_14 s Q := wC_loopQ I n h0 step
def c23_13 : ACode := .block 0 c23_14
theorem s23_13 (h : wC fs out c23_14 s fun e s1 => Q (if e = .exit 0 then .normal else e) s1) : wC fs out c23_13 s Q := wC_block h
def c23_11 : ACode := .seq c23_12 c23_13
theorem s23_11 (h : wS fs out s.h.nx o23_12 s.t ⟨s.h.o, s.h.nx + 3⟩ fun s1 => wC fs out c23_13 s1 Q) : wC fs out c23_11 s Q := wC_seq (s23_12 h)
def o23_31 : List (Nat × AOper) := (0, ⟨some 47, .mov (.t 1), none⟩) ::
   (1, ⟨some 48, .len (.t 47), none⟩) ::
   (2, ⟨some 49, .mov (.k (.v (.one (.int .i64 0)))), none⟩) ::
   []
theorem h23_31 : wS fs out b o23_31 t h R = (wV fs out (b + 0) noT h (.mov (.k (t 1))) fun x47_0 h => wV fs out (b + 1) noT h (.len (.k x47_0)) fun x48_1 h => wV fs out (b + 2) noT h (.mov (.k (.v (.one (.int .i64 0))))) fun x49_2 h => R ⟨(upd (upd (upd t 47 x47_0) 48 x48_1) 49 x49_2), h⟩) := by kernel_rfl
def c23_31 : ACode := .region (o23_31.map (·.2)) [0, 1, 2] []
theorem s23_31 (h : wS fs out s.h.nx o23_31 s.t ⟨s.h.o, s.h.nx + 3⟩ (Q .normal)) : wC fs out c23_31 s Q := wC_region rfl rfl h
def o23_35 : List (Nat × AOper) := (0, ⟨some 50, .bin .lss (.t 49) (.t 48), none⟩) ::
   []
theorem h23_35 : wS fs out b o23_35 t h R = (wV fs out (b + 0) noT h (.bin .lss (.k (t 49)) (.k (t 48))) fun x50_0 h => R ⟨(upd t 50 x50_0), h⟩) := by kernel_rfl
def c23_35 : ACode := .region (o23_35.map (·.2)) [0] []
theorem s23_35 (h : wS fs out s.h.nx o23_35 s.t ⟨s.h.o, s.h.nx + 1⟩ (Q .normal)) : wC fs out c23_35 s Q := wC_region rfl rfl h
def c23_37 : ACode := .cond (.t 50) .skip (.exit 2) [1, 2, 7, 47, 48, 49]
theorem s23_37 (h : onC (s.t 50) (Q .normal (keepOnly [1, 2, 7, 47, 48, 49] s)) (Q (.exit 2) (keepOnly [1, 2, 7, 47, 48, 49] s))) : wC fs out c23_37 s Q := wC_condC (by first | exact h | (simp only [wC_skip, wC_exit, wC_ret]; exact h))
def o23_41 : List (Nat × AOper) := (0, ⟨some 51, .iadr 4 (.t 47) (.t 49), none⟩) ::
   (1, ⟨some 52, .load (some 4) (.t 51), none⟩) ::
   (2, ⟨some 11, .new 35 [(.int .i64 0), (.int .i64 0), (.int .i64 0), (.int .i64 0)], none⟩) ::
   (3, ⟨none, .store 4 (.t 11) (.t 52), none⟩) ::
   []
theorem h23_41 : wS fs out b o23_41 t h R = (wV fs out (b + 0) noT h (.iadr 4 (.k (t 47)) (.k (t 49))) fun x51_0 h => wV fs out (b + 1) noT h (.load (some 4) (.k x51_0)) fun x52_1 h => wV fs out (b + 2) noT h (.new 35 [(.int .i64 0), (.int .i64 0), (.int .i64 0), (.int .i64 0)]) fun x11_2 h => wV fs out (b + 3) noT h (.store 4 (.k x11_2) (.k x52_1)) fun _ h => R ⟨(upd (upd (upd t 51 x51_0) 52 x52_1) 11 x11_2), h⟩) := by kernel_rfl
def c23_41 : ACode := .region (o23_41.map (·.2)) [0, 1, 2, 3] []
theorem s23_41 (h : wS fs out s.h.nx o23_41 s.t ⟨s.h.o, s.h.nx + 4⟩ (Q .normal)) : wC fs out c23_41 s Q := wC_region rfl rfl h
def o23_43_16 : List (Nat × AOper) := (46, ⟨some 99, .pick (.t 95) (.k (.v (.one (.bool true)))) (.t 98), none⟩) ::
   []
theorem h23_43_16 : wS fs out b o23_43_16 t h R = (wV fs out (b + 46) noT h (.pick (.k (t 95)) (.k (.v (.one (.bool true)))) (.k (t 98))) fun x99_0 h => R ⟨(upd t 99 x99_0), h⟩) := by kernel_rfl
def o23_43_15g : List (Nat × AOper) := (43, ⟨some 96, .fadr 3 (.t 11), none⟩) ::
   (44, ⟨some 97, .load none (.t 96), none⟩) ::
   (45, ⟨some 98, .bin .gtr (.t 97) (.k (.v (.one (.int .i64 4194304)))), none⟩) ::
   []
theorem h23_43_15g : wS fs out b o23_43_15g t h R = (wV fs out (b + 43) noT h (.fadr 3 (.k (t 11))) fun x96_0 h => wV fs out (b + 44) noT h (.load none (.k x96_0)) fun x97_1 h => wV fs out (b + 45) noT h (.bin .gtr (.k x97_1) (.k (.v (.one (.int .i64 4194304))))) fun x98_2 h => R ⟨(upd (upd (upd t 96 x96_0) 97 x97_1) 98 x98_2), h⟩) := by kernel_rfl
def o23_43_15 : List (Nat × AOper) := grp 95 false o23_43_15g o23_43_16
theorem w23_43_15 : wS fs out b o23_43_15 t h R = onG (t 95) false (wS fs out b o23_43_15g (upd t 95 (.v (.one (.bool false)))) h fun s => wS fs out b o23_43_16 s.t s.h R) (wS fs out b o23_43_16 (upd (upd (upd (upd t 95 (.v (.one (.bool true)))) 96 (.tup [])) 97 (.tup [])) 98 (.tup [])) h R) (wS fs out b o23_43_16 (upd (upd (upd t 96 (.tup [])) 97 (.tup [])) 98 (.tup [])) h R) := wS_grpE rfl
def o23_43_14 : List (Nat × AOper) := (41, ⟨some 94, .pick (.t 90) (.k (.v (.one (.bool true)))) (.t 93), none⟩) ::
   (42, ⟨some 95, .mov (.t 94), none⟩) ::
   o23_43_15
theorem h23_43_14 : wS fs out b o23_43_14 t h R = (wV fs out (b + 41) noT h (.pick (.k (t 90)) (.k (.v (.one (.bool true)))) (.k (t 93))) fun x94_0 h => wV fs out (b + 42) noT h (.mov (.k x94_0)) fun x95_1 h => wS fs out b o23_43_15 (upd (upd t 94 x94_0) 95 x95_1) h R) := by kernel_rfl
def o23_43_13g : List (Nat × AOper) := (38, ⟨some 91, .fadr 3 (.t 11), none⟩) ::
   (39, ⟨some 92, .load none (.t 91), none⟩) ::
   (40, ⟨some 93, .bin .lss (.t 92) (.k (.v (.one (.int .i64 (-1))))), none⟩) ::
   []
theorem h23_43_13g : wS fs out b o23_43_13g t h R = (wV fs out (b + 38) noT h (.fadr 3 (.k (t 11))) fun x91_0 h => wV fs out (b + 39) noT h (.load none (.k x91_0)) fun x92_1 h => wV fs out (b + 40) noT h (.bin .lss (.k x92_1) (.k (.v (.one (.int .i64 (-1)))))) fun x93_2 h => R ⟨(upd (upd (upd t 91 x91_0) 92 x92_1) 93 x93_2), h⟩) := by kernel_rfl
def o23_43_13 : List (Nat × AOper) := grp 90 false o23_43_13g o23_43_14
theorem w23_43_13 : wS fs out b o23_43_13 t h R = onG (t 90) false (wS fs out b o23_43_13g (upd t 90 (.v (.one (.bool false)))) h fun s => wS fs out b o23_43_14 s.t s.h R) (wS fs out b o23_43_14 (upd (upd (upd (upd t 90 (.v (.one (.bool true)))) 91 (.tup [])) 92 (.tup [])) 93 (.tup [])) h R) (wS fs out b o23_43_14 (upd (upd (upd t 91 (.tup [])) 92 (.tup [])) 93 (.tup [])) h R) := wS_grpE rfl
def o23_43_12 : List (Nat × AOper) := (36, ⟨some 89, .pick (.t 85) (.k (.v (.one (.bool true)))) (.t 88), none⟩) ::
   (37, ⟨some 90, .mov (.t 89), none⟩) ::
   o23_43_13
theorem h23_43_12 : wS fs out b o23_43_12 t h R = (wV fs out (b + 36) noT h (.pick (.k (t 85)) (.k (.v (.one (.bool true)))) (.k (t 88))) fun x89_0 h => wV fs out (b + 37) noT h (.mov (.k x89_0)) fun x90_1 h => wS fs out b o23_43_13 (upd (upd t 89 x89_0) 90 x90_1) h R) := by kernel_rfl
def o23_43_11g : List (Nat × AOper) := (33, ⟨some 86, .fadr 2 (.t 11), none⟩) ::
   (34, ⟨some 87, .load none (.t 86), none⟩) ::
   (35, ⟨some 88, .bin .gtr (.t 87) (.k (.v (.one (.int .i64 4194304)))), none⟩) ::
   []
theorem h23_43_11g : wS fs out b o23_43_11g t h R = (wV fs out (b + 33) noT h (.fadr 2 (.k (t 11))) fun x86_0 h => wV fs out (b + 34) noT h (.load none (.k x86_0)) fun x87_1 h => wV fs out (b + 35) noT h (.bin .gtr (.k x87_1) (.k (.v (.one (.int .i64 4194304))))) fun x88_2 h => R ⟨(upd (upd (upd t 86 x86_0) 87 x87_1) 88 x88_2), h⟩) := by kernel_rfl
def o23_43_11 : List (Nat × AOper) := grp 85 false o23_43_11g o23_43_12
theorem w23_43_11 : wS fs out b o23_43_11 t h R = onG (t 85) false (wS fs out b o23_43_11g (upd t 85 (.v (.one (.bool false)))) h fun s => wS fs out b o23_43_12 s.t s.h R) (wS fs out b o23_43_12 (upd (upd (upd (upd t 85 (.v (.one (.bool true)))) 86 (.tup [])) 87 (.tup [])) 88 (.tup [])) h R) (wS fs out b o23_43_12 (upd (upd (upd t 86 (.tup [])) 87 (.tup [])) 88 (.tup [])) h R) := wS_grpE rfl
def o23_43_10 : List (Nat × AOper) := (31, ⟨some 84, .pick (.t 80) (.k (.v (.one (.bool true)))) (.t 83), none⟩) ::
   (32, ⟨some 85, .mov (.t 84), none⟩) ::
   o23_43_11
theorem h23_43_10 : wS fs out b o23_43_10 t h R = (wV fs out (b + 31) noT h (.pick (.k (t 80)) (.k (.v (.one (.bool true)))) (.k (t 83))) fun x84_0 h => wV fs out (b + 32) noT h (.mov (.k x84_0)) fun x85_1 h => wS fs out b o23_43_11 (upd (upd t 84 x84_0) 85 x85_1) h R) := by kernel_rfl
def o23_43_9g : List (Nat × AOper) := (28, ⟨some 81, .fadr 2 (.t 11), none⟩) ::
   (29, ⟨some 82, .load none (.t 81), none⟩) ::
   (30, ⟨some 83, .bin .lss (.t 82) (.k (.v (.one (.int .i64 0)))), none⟩) ::
   []
theorem h23_43_9g : wS fs out b o23_43_9g t h R = (wV fs out (b + 28) noT h (.fadr 2 (.k (t 11))) fun x81_0 h => wV fs out (b + 29) noT h (.load none (.k x81_0)) fun x82_1 h => wV fs out (b + 30) noT h (.bin .lss (.k x82_1) (.k (.v (.one (.int .i64 0))))) fun x83_2 h => R ⟨(upd (upd (upd t 81 x81_0) 82 x82_1) 83 x83_2), h⟩) := by kernel_rfl
def o23_43_9 : List (Nat × AOper) := grp 80 false o23_43_9g o23_43_10
theorem w23_43_9 : wS fs out b o23_43_9 t h R = onG (t 80) false (wS fs out b o23_43_9g (upd t 80 (.v (.one (.bool false)))) h fun s => wS fs out b o23_43_10 s.t s.h R) (wS fs out b o23_43_10 (upd (upd (upd (upd t 80 (.v (.one (.bool true)))) 81 (.tup [])) 82 (.tup [])) 83 (.tup [])) h R) (wS fs out b o23_43_10 (upd (upd (upd t 81 (.tup [])) 82 (.tup [])) 83 (.tup [])) h R) := wS_grpE rfl
def o23_43_8 : List (Nat × AOper) := (26, ⟨some 79, .pick (.t 73) (.k (.v (.one (.bool true)))) (.t 78), none⟩) ::
   (27, ⟨some 80, .mov (.t 79), none⟩) ::
   o23_43_9
theorem h23_43_8 : wS fs out b o23_43_8 t h R = (wV fs out (b + 26) noT h (.pick (.k (t 73)) (.k (.v (.one (.bool true)))) (.k (t 78))) fun x79_0 h => wV fs out (b + 27) noT h (.mov (.k x79_0)) fun x80_1 h => wS fs out b o23_43_9 (upd (upd t 79 x79_0) 80 x80_1) h R) := by kernel_rfl
def o23_43_7g : List (Nat × AOper) := (21, ⟨some 74, .fadr 0 (.t 11), none⟩) ::
   (22, ⟨some 75, .load none (.t 74), none⟩) ::
   (23, ⟨some 76, .fadr 1 (.t 11), none⟩) ::
   (24, ⟨some 77, .load none (.t 76), none⟩) ::
   (25, ⟨some 78, .bin .eql (.t 75) (.t 77), none⟩) ::
   []
theorem h23_43_7g : wS fs out b o23_43_7g t h R = (wV fs out (b + 21) noT h (.fadr 0 (.k (t 11))) fun x74_0 h => wV fs out (b + 22) noT h (.load none (.k x74_0)) fun x75_1 h => wV fs out (b + 23) noT h (.fadr 1 (.k (t 11))) fun x76_2 h => wV fs out (b + 24) noT h (.load none (.k x76_2)) fun x77_3 h => wV fs out (b + 25) noT h (.bin .eql (.k x75_1) (.k x77_3)) fun x78_4 h => R ⟨(upd (upd (upd (upd (upd t 74 x74_0) 75 x75_1) 76 x76_2) 77 x77_3) 78 x78_4), h⟩) := by kernel_rfl
def o23_43_7 : List (Nat × AOper) := grp 73 false o23_43_7g o23_43_8
theorem w23_43_7 : wS fs out b o23_43_7 t h R = onG (t 73) false (wS fs out b o23_43_7g (upd t 73 (.v (.one (.bool false)))) h fun s => wS fs out b o23_43_8 s.t s.h R) (wS fs out b o23_43_8 (upd (upd (upd (upd (upd (upd t 73 (.v (.one (.bool true)))) 74 (.tup [])) 75 (.tup [])) 76 (.tup [])) 77 (.tup [])) 78 (.tup [])) h R) (wS fs out b o23_43_8 (upd (upd (upd (upd (upd t 74 (.tup [])) 75 (.tup [])) 76 (.tup [])) 77 (.tup [])) 78 (.tup [])) h R) := wS_grpE rfl
def o23_43_6 : List (Nat × AOper) := (19, ⟨some 72, .pick (.t 67) (.k (.v (.one (.bool true)))) (.t 71), none⟩) ::
   (20, ⟨some 73, .mov (.t 72), none⟩) ::
   o23_43_7
theorem h23_43_6 : wS fs out b o23_43_6 t h R = (wV fs out (b + 19) noT h (.pick (.k (t 67)) (.k (.v (.one (.bool true)))) (.k (t 71))) fun x72_0 h => wV fs out (b + 20) noT h (.mov (.k x72_0)) fun x73_1 h => wS fs out b o23_43_7 (upd (upd t 72 x72_0) 73 x73_1) h R) := by kernel_rfl
def o23_43_5g : List (Nat × AOper) := (15, ⟨some 68, .fadr 1 (.t 11), none⟩) ::
   (16, ⟨some 69, .load none (.t 68), none⟩) ::
   (17, ⟨some 70, .mov (.t 7), none⟩) ::
   (18, ⟨some 71, .bin .geq (.t 69) (.t 70), none⟩) ::
   []
theorem h23_43_5g : wS fs out b o23_43_5g t h R = (wV fs out (b + 15) noT h (.fadr 1 (.k (t 11))) fun x68_0 h => wV fs out (b + 16) noT h (.load none (.k x68_0)) fun x69_1 h => wV fs out (b + 17) noT h (.mov (.k (t 7))) fun x70_2 h => wV fs out (b + 18) noT h (.bin .geq (.k x69_1) (.k x70_2)) fun x71_3 h => R ⟨(upd (upd (upd (upd t 68 x68_0) 69 x69_1) 70 x70_2) 71 x71_3), h⟩) := by kernel_rfl
def o23_43_5 : List (Nat × AOper) := grp 67 false o23_43_5g o23_43_6
theorem w23_43_5 : wS fs out b o23_43_5 t h R = onG (t 67) false (wS fs out b o23_43_5g (upd t 67 (.v (.one (.bool false)))) h fun s => wS fs out b o23_43_6 s.t s.h R) (wS fs out b o23_43_6 (upd (upd (upd (upd (upd t 67 (.v (.one (.bool true)))) 68 (.tup [])) 69 (.tup [])) 70 (.tup [])) 71 (.tup [])) h R) (wS fs out b o23_43_6 (upd (upd (upd (upd t 68 (.tup [])) 69 (.tup [])) 70 (.tup [])) 71 (.tup [])) h R) := wS_grpE rfl
def o23_43_4 : List (Nat × AOper) := (13, ⟨some 66, .pick (.t 62) (.k (.v (.one (.bool true)))) (.t 65), none⟩) ::
   (14, ⟨some 67, .mov (.t 66), none⟩) ::
   o23_43_5
theorem h23_43_4 : wS fs out b o23_43_4 t h R = (wV fs out (b + 13) noT h (.pick (.k (t 62)) (.k (.v (.one (.bool true)))) (.k (t 65))) fun x66_0 h => wV fs out (b + 14) noT h (.mov (.k x66_0)) fun x67_1 h => wS fs out b o23_43_5 (upd (upd t 66 x66_0) 67 x67_1) h R) := by kernel_rfl
def o23_43_3g : List (Nat × AOper) := (10, ⟨some 63, .fadr 1 (.t 11), none⟩) ::
   (11, ⟨some 64, .load none (.t 63), none⟩) ::
   (12, ⟨some 65, .bin .lss (.t 64) (.k (.v (.one (.int .i64 0)))), none⟩) ::
   []
theorem h23_43_3g : wS fs out b o23_43_3g t h R = (wV fs out (b + 10) noT h (.fadr 1 (.k (t 11))) fun x63_0 h => wV fs out (b + 11) noT h (.load none (.k x63_0)) fun x64_1 h => wV fs out (b + 12) noT h (.bin .lss (.k x64_1) (.k (.v (.one (.int .i64 0))))) fun x65_2 h => R ⟨(upd (upd (upd t 63 x63_0) 64 x64_1) 65 x65_2), h⟩) := by kernel_rfl
def o23_43_3 : List (Nat × AOper) := grp 62 false o23_43_3g o23_43_4
theorem w23_43_3 : wS fs out b o23_43_3 t h R = onG (t 62) false (wS fs out b o23_43_3g (upd t 62 (.v (.one (.bool false)))) h fun s => wS fs out b o23_43_4 s.t s.h R) (wS fs out b o23_43_4 (upd (upd (upd (upd t 62 (.v (.one (.bool true)))) 63 (.tup [])) 64 (.tup [])) 65 (.tup [])) h R) (wS fs out b o23_43_4 (upd (upd (upd t 63 (.tup [])) 64 (.tup [])) 65 (.tup [])) h R) := wS_grpE rfl
def o23_43_2 : List (Nat × AOper) := (8, ⟨some 61, .pick (.t 56) (.k (.v (.one (.bool true)))) (.t 60), none⟩) ::
   (9, ⟨some 62, .mov (.t 61), none⟩) ::
   o23_43_3
theorem h23_43_2 : wS fs out b o23_43_2 t h R = (wV fs out (b + 8) noT h (.pick (.k (t 56)) (.k (.v (.one (.bool true)))) (.k (t 60))) fun x61_0 h => wV fs out (b + 9) noT h (.mov (.k x61_0)) fun x62_1 h => wS fs out b o23_43_3 (upd (upd t 61 x61_0) 62 x62_1) h R) := by kernel_rfl
def o23_43_1g : List (Nat × AOper) := (4, ⟨some 57, .fadr 0 (.t 11), none⟩) ::
   (5, ⟨some 58, .load none (.t 57), none⟩) ::
   (6, ⟨some 59, .mov (.t 7), none⟩) ::
   (7, ⟨some 60, .bin .geq (.t 58) (.t 59), none⟩) ::
   []
theorem h23_43_1g : wS fs out b o23_43_1g t h R = (wV fs out (b + 4) noT h (.fadr 0 (.k (t 11))) fun x57_0 h => wV fs out (b + 5) noT h (.load none (.k x57_0)) fun x58_1 h => wV fs out (b + 6) noT h (.mov (.k (t 7))) fun x59_2 h => wV fs out (b + 7) noT h (.bin .geq (.k x58_1) (.k x59_2)) fun x60_3 h => R ⟨(upd (upd (upd (upd t 57 x57_0) 58 x58_1) 59 x59_2) 60 x60_3), h⟩) := by kernel_rfl
def o23_43_1 : List (Nat × AOper) := grp 56 false o23_43_1g o23_43_2
theorem w23_43_1 : wS fs out b o23_43_1 t h R = onG (t 56) false (wS fs out b o23_43_1g (upd t 56 (.v (.one (.bool false)))) h fun s => wS fs out b o23_43_2 s.t s.h R) (wS fs out b o23_43_2 (upd (upd (upd (upd (upd t 56 (.v (.one (.bool true)))) 57 (.tup [])) 58 (.tup [])) 59 (.tup [])) 60 (.tup [])) h R) (wS fs out b o23_43_2 (upd (upd (upd (upd t 57 (.tup [])) 58 (.tup [])) 59 (.tup [])) 60 (.tup [])) h R) := wS_grpE rfl
def o23_43 : List (Nat × AOper) := (0, ⟨some 53, .fadr 0 (.t 11), none⟩) ::
   (1, ⟨some 54, .load none (.t 53), none⟩) ::
   (2, ⟨some 55, .bin .lss (.t 54) (.k (.v (.one (.int .i64 0)))), none⟩) ::
   (3, ⟨some 56, .mov (.t 55), none⟩) ::
   o23_43_1
theorem h23_43 : wS fs out b o23_43 t h R = (wV fs out (b + 0) noT h (.fadr 0 (.k (t 11))) fun x53_0 h => wV fs out (b + 1) noT h (.load none (.k x53_0)) fun x54_1 h => wV fs out (b + 2) noT h (.bin .lss (.k x54_1) (.k (.v (.one (.int .i64 0))))) fun x55_2 h => wV fs out (b + 3) noT h (.mov (.k x55_2)) fun x56_3 h => wS fs out b o23_43_1 (upd (upd (upd (upd t 53 x53_0) 54 x54_1) 55 x55_2) 56 x56_3) h R) := by kernel_rfl
def c23_43 : ACode := .region (o23_43.map (·.2)) [0, 1, 2, 3, 4, 5, 6, 7, 8, 9, 10, 11, 12, 13, 14, 15, 16, 17, 18, 19, 20, 21, 22, 23, 24, 25, 26, 27, 28, 29, 30, 31, 32, 33, 34, 35, 36, 37, 38, 39, 40, 41, 42, 43, 44, 45, 46] []
theorem s23_43 (h : wS fs out s.h.nx o23_43 s.t ⟨s.h.o, s.h.nx + 47⟩ (Q .normal)) : wC fs out c23_43 s Q := wC_region rfl rfl h
def o23_46 : List (Nat × AOper) := (0, ⟨some 6, .mov (.k (.v (.one (.bool false)))), none⟩) ::
   []
theorem h23_46 : wS fs out b o23_46 t h R = (wV fs out (b + 0) noT h (.mov (.k (.v (.one (.bool false))))) fun x6_0 h => R ⟨(upd t 6 x6_0), h⟩) := by kernel_rfl
def c23_46 : ACode := .region (o23_46.map (·.2)) [0] []
theorem s23_46 (h : wS fs out s.h.nx o23_46 s.t ⟨s.h.o, s.h.nx + 1⟩ (Q .normal)) : wC fs out c23_46 s Q := wC_region rfl rfl h
def c23_45 : ACode := .seq c23_46 .ret
theorem s23_45 (h : wS fs out s.h.nx o23_46 s.t ⟨s.h.o, s.h.nx + 1⟩ fun s1 => wC fs out .ret s1 Q) : wC fs out c23_45 s Q := wC_seq (s23_46 h)
def c23_44 : ACode := .cond (.t 99) c23_45 .skip [1, 2, 6, 7, 47, 48, 49]
theorem s23_44 (h : onC (s.t 99) (wC fs out c23_45 s fun e s1 => Q e (keepOnly [1, 2, 6, 7, 47, 48, 49] s1)) (Q .normal (keepOnly [1, 2, 6, 7, 47, 48, 49] s))) : wC fs out c23_44 s Q := wC_condC (by first | exact h | (simp only [wC_skip, wC_exit, wC_ret]; exact h))
def c23_42 : ACode := .seq c23_43 c23_44
theorem s23_42 (h : wS fs out s.h.nx o23_43 s.t ⟨s.h.o, s.h.nx + 47⟩ fun s1 => wC fs out c23_44 s1 Q) : wC fs out c23_42 s Q := wC_seq (s23_43 h)
def c23_40 : ACode := .seq c23_41 c23_42
theorem s23_40 (h : wS fs out s.h.nx o23_41 s.t ⟨s.h.o, s.h.nx + 4⟩ fun s1 => wC fs out c23_42 s1 Q) : wC fs out c23_40 s Q := wC_seq (s23_41 h)
def c23_39 : ACode := .block 3 c23_40
theorem s23_39 (h : wC fs out c23_40 s fun e s1 => Q (if e = .exit 3 then .normal else e) s1) : wC fs out c23_39 s Q := wC_block h
def o23_47 : List (Nat × AOper) := (0, ⟨some 100, .bin .add (.t 49) (.k (.v (.one (.int .i64 1)))), none⟩) ::
   (1, ⟨some 49, .mov (.t 100), none⟩) ::
   []
theorem h23_47 : wS fs out b o23_47 t h R = (wV fs out (b + 0) noT h (.bin .add (.k (t 49)) (.k (.v (.one (.int .i64 1))))) fun x100_0 h => wV fs out (b + 1) noT h (.mov (.k x100_0)) fun x49_1 h => R ⟨(upd (upd t 100 x100_0) 49 x49_1), h⟩) := by kernel_rfl
def c23_47 : ACode := .region (o23_47.map (·.2)) [0, 1] []
theorem s23_47 (h : wS fs out s.h.nx o23_47 s.t ⟨s.h.o, s.h.nx + 2⟩ (Q .normal)) : wC fs out c23_47 s Q := wC_region rfl rfl h
def c23_38 : ACode := .seq c23_39 c23_47
theorem s23_38 (h : wC fs out c23_39 s fun e s1 => match e with | .normal => wC fs out c23_47 s1 Q | e => Q e s1) : wC fs out c23_38 s Q := wC_seq h
def c23_36 : ACode := .seq c23_37 c23_38
theorem s23_36 (h : onC (s.t 50) (wC fs out c23_38 (keepOnly [1, 2, 7, 47, 48, 49] s) Q) (Q (.exit 2) (keepOnly [1, 2, 7, 47, 48, 49] s))) : wC fs out c23_36 s Q := wC_seq (s23_37 h)
def c23_34 : ACode := .seq c23_35 c23_36
theorem s23_34 (h : wS fs out s.h.nx o23_35 s.t ⟨s.h.o, s.h.nx + 1⟩ fun s1 => wC fs out c23_36 s1 Q) : wC fs out c23_34 s Q := wC_seq (s23_35 h)
def c23_33 : ACode := .loop [1, 2, 7, 47, 48, 49] c23_34
theorem s23_33 (I : Nat → St → Prop) (n : Nat) (h0 : I n (keepOnly [1, 2, 7, 47, 48, 49] s)) (step : ∀ m s (Q' : AExit → St → Prop), I m s → (∀ m' s1, m' < m → I m' (keepOnly [1, 2, 7, 47, 48, 49] s1) → Q' .normal s1) → (∀ i s1, Q (.exit i) s1 → Q' (.exit i) s1) → (∀ s1, Q .ret s1 → Q' .ret s1) → wC fs out c23_34 s Q') : wC fs out c23_33 s Q := wC_loopQ I n h0 step
def c23_32 : ACode := .block 2 c23_33
theorem s23_32 (h : wC fs out c23_33 s fun e s1 => Q (if e = .exit 2 then .normal else e) s1) : wC fs out c23_32 s Q := wC_block h
def c23_30 : ACode := .seq c23_31 c23_32
theorem s23_30 (h : wS fs out s.h.nx o23_31 s.t ⟨s.h.o, s.h.nx + 3⟩ fun s1 => wC fs out c23_32 s1 Q) : wC fs out c23_30 s Q := wC_seq (s23_31 h)
def o23_50 : List (Nat × AOper) := (0, ⟨some 101, .mov (.t 2), none⟩) ::
   (1, ⟨some 102, .len (.t 101), none⟩) ::
   (2, ⟨some 103, .mov (.k (.v (.one (.int .i64 0)))), none⟩) ::
   []
theorem h23_50 : wS fs out b o23_50 t h R = (wV fs out (b + 0) noT h (.mov (.k (t 2))) fun x101_0 h => wV fs out (b + 1) noT h (.len (.k x101_0)) fun x102_1 h => wV fs out (b + 2) noT h (.mov (.k (.v (.one (.int .i64 0))))) fun x103_2 h => R ⟨(upd (upd (upd t 101 x101_0) 102 x102_1) 103 x103_2), h⟩) := by kernel_rfl
def c23_50 : ACode := .region (o23_50.map (·.2)) [0, 1, 2] []
theorem s23_50 (h : wS fs out s.h.nx o23_50 s.t ⟨s.h.o, s.h.nx + 3⟩ (Q .normal)) : wC fs out c23_50 s Q := wC_region rfl rfl h
def o23_54 : List (Nat × AOper) := (0, ⟨some 104, .bin .lss (.t 103) (.t 102), none⟩) ::
   []
theorem h23_54 : wS fs out b o23_54 t h R = (wV fs out (b + 0) noT h (.bin .lss (.k (t 103)) (.k (t 102))) fun x104_0 h => R ⟨(upd t 104 x104_0), h⟩) := by kernel_rfl
def c23_54 : ACode := .region (o23_54.map (·.2)) [0] []
theorem s23_54 (h : wS fs out s.h.nx o23_54 s.t ⟨s.h.o, s.h.nx + 1⟩ (Q .normal)) : wC fs out c23_54 s Q := wC_region rfl rfl h
def c23_56 : ACode := .cond (.t 104) .skip (.exit 4) [1, 2, 7, 101, 102, 103]
theorem s23_56 (h : onC (s.t 104) (Q .normal (keepOnly [1, 2, 7, 101, 102, 103] s)) (Q (.exit 4) (keepOnly [1, 2, 7, 101, 102, 103] s))) : wC fs out c23_56 s Q := wC_condC (by first | exact h | (simp only [wC_skip, wC_exit, wC_ret]; exact h))
def o23_60 : List (Nat × AOper) := (0, ⟨some 105, .mov (.t 103), none⟩) ::
   (1, ⟨some 106, .iadr 2 (.t 101) (.t 103), none⟩) ::
   (2, ⟨some 107, .load (some 2) (.t 106), none⟩) ::
   (3, ⟨some 13, .new 39 [(.int .i64 0), (.int .i64 0)], none⟩) ::
   (4, ⟨some 12, .mov (.t 105), none⟩) ::
   (5, ⟨none, .store 2 (.t 13) (.t 107), none⟩) ::
   []
theorem h23_60 : wS fs out b o23_60 t h R = (wV fs out (b + 0) noT h (.mov (.k (t 103))) fun x105_0 h => wV fs out (b + 1) noT h (.iadr 2 (.k (t 101)) (.k (t 103))) fun x106_1 h => wV fs out (b + 2) noT h (.load (some 2) (.k x106_1)) fun x107_2 h => wV fs out (b + 3) noT h (.new 39 [(.int .i64 0), (.int .i64 0)]) fun x13_3 h => wV fs out (b + 4) noT h (.mov (.k x105_0)) fun x12_4 h => wV fs out (b + 5) noT h (.store 2 (.k x13_3) (.k x107_2)) fun _ h => R ⟨(upd (upd (upd (upd (upd t 105 x105_0) 106 x106_1) 107 x107_2) 13 x13_3) 12 x12_4), h⟩) := by kernel_rfl
def c23_60 : ACode := .region (o23_60.map (·.2)) [0, 1, 2, 3, 4, 5] []
theorem s23_60 (h : wS fs out s.h.nx o23_60 s.t ⟨s.h.o, s.h.nx + 6⟩ (Q .normal)) : wC fs out c23_60 s Q := wC_region rfl rfl h
def o23_63_6 : List (Nat × AOper) := (18, ⟨some 126, .pick (.t 122) (.k (.v (.one (.bool true)))) (.t 125), none⟩) ::
   []
theorem h23_63_6 : wS fs out b o23_63_6 t h R = (wV fs out (b + 18) noT h (.pick (.k (t 122)) (.k (.v (.one (.bool true)))) (.k (t 125))) fun x126_0 h => R ⟨(upd t 126 x126_0), h⟩) := by kernel_rfl
def o23_63_5g : List (Nat × AOper) := (15, ⟨some 123, .fadr 1 (.t 13), none⟩) ::
   (16, ⟨some 124, .load none (.t 123), none⟩) ::
   (17, ⟨some 125, .bin .gtr (.t 124) (.k (.v (.one (.int .i64 4194304)))), none⟩) ::
   []
theorem h23_63_5g : wS fs out b o23_63_5g t h R = (wV fs out (b + 15) noT h (.fadr 1 (.k (t 13))) fun x123_0 h => wV fs out (b + 16) noT h (.load none (.k x123_0)) fun x124_1 h => wV fs out (b + 17) noT h (.bin .gtr (.k x124_1) (.k (.v (.one (.int .i64 4194304))))) fun x125_2 h => R ⟨(upd (upd (upd t 123 x123_0) 124 x124_1) 125 x125_2), h⟩) := by kernel_rfl
def o23_63_5 : List (Nat × AOper) := grp 122 false o23_63_5g o23_63_6
theorem w23_63_5 : wS fs out b o23_63_5 t h R = onG (t 122) false (wS fs out b o23_63_5g (upd t 122 (.v (.one (.bool false)))) h fun s => wS fs out b o23_63_6 s.t s.h R) (wS fs out b o23_63_6 (upd (upd (upd (upd t 122 (.v (.one (.bool true)))) 123 (.tup [])) 124 (.tup [])) 125 (.tup [])) h R) (wS fs out b o23_63_6 (upd (upd (upd t 123 (.tup [])) 124 (.tup [])) 125 (.tup [])) h R) := wS_grpE rfl
def o23_63_4 : List (Nat × AOper) := (13, ⟨some 121, .pick (.t 117) (.k (.v (.one (.bool true)))) (.t 120), none⟩) ::
   (14, ⟨some 122, .mov (.t 121), none⟩) ::
   o23_63_5
theorem h23_63_4 : wS fs out b o23_63_4 t h R = (wV fs out (b + 13) noT h (.pick (.k (t 117)) (.k (.v (.one (.bool true)))) (.k (t 120))) fun x121_0 h => wV fs out (b + 14) noT h (.mov (.k x121_0)) fun x122_1 h => wS fs out b o23_63_5 (upd (upd t 121 x121_0) 122 x122_1) h R) := by kernel_rfl
def o23_63_3g : List (Nat × AOper) := (10, ⟨some 118, .fadr 1 (.t 13), none⟩) ::
   (11, ⟨some 119, .load none (.t 118), none⟩) ::
   (12, ⟨some 120, .bin .lss (.t 119) (.k (.v (.one (.int .i64 0)))), none⟩) ::
   []
theorem h23_63_3g : wS fs out b o23_63_3g t h R = (wV fs out (b + 10) noT h (.fadr 1 (.k (t 13))) fun x118_0 h => wV fs out (b + 11) noT h (.load none (.k x118_0)) fun x119_1 h => wV fs out (b + 12) noT h (.bin .lss (.k x119_1) (.k (.v (.one (.int .i64 0))))) fun x120_2 h => R ⟨(upd (upd (upd t 118 x118_0) 119 x119_1) 120 x120_2), h⟩) := by kernel_rfl
def o23_63_3 : List (Nat × AOper) := grp 117 false o23_63_3g o23_63_4
theorem w23_63_3 : wS fs out b o23_63_3 t h R = onG (t 117) false (wS fs out b o23_63_3g (upd t 117 (.v (.one (.bool false)))) h fun s => wS fs out b o23_63_4 s.t s.h R) (wS fs out b o23_63_4 (upd (upd (upd (upd t 117 (.v (.one (.bool true)))) 118 (.tup [])) 119 (.tup [])) 120 (.tup [])) h R) (wS fs out b o23_63_4 (upd (upd (upd t 118 (.tup [])) 119 (.tup [])) 120 (.tup [])) h R) := wS_grpE rfl
def o23_63_2 : List (Nat × AOper) := (8, ⟨some 116, .pick (.t 111) (.k (.v (.one (.bool true)))) (.t 115), none⟩) ::
   (9, ⟨some 117, .mov (.t 116), none⟩) ::
   o23_63_3
theorem h23_63_2 : wS fs out b o23_63_2 t h R = (wV fs out (b + 8) noT h (.pick (.k (t 111)) (.k (.v (.one (.bool true)))) (.k (t 115))) fun x116_0 h => wV fs out (b + 9) noT h (.mov (.k x116_0)) fun x117_1 h => wS fs out b o23_63_3 (upd (upd t 116 x116_0) 117 x117_1) h R) := by kernel_rfl
def o23_63_1g : List (Nat × AOper) := (4, ⟨some 112, .fadr 0 (.t 13), none⟩) ::
   (5, ⟨some 113, .load none (.t 112), none⟩) ::
   (6, ⟨some 114, .mov (.t 7), none⟩) ::
   (7, ⟨some 115, .bin .geq (.t 113) (.t 114), none⟩) ::
   []
theorem h23_63_1g : wS fs out b o23_63_1g t h R = (wV fs out (b + 4) noT h (.fadr 0 (.k (t 13))) fun x112_0 h => wV fs out (b + 5) noT h (.load none (.k x112_0)) fun x113_1 h => wV fs out (b + 6) noT h (.mov (.k (t 7))) fun x114_2 h => wV fs out (b + 7) noT h (.bin .geq (.k x113_1) (.k x114_2)) fun x115_3 h => R ⟨(upd (upd (upd (upd t 112 x112_0) 113 x113_1) 114 x114_2) 115 x115_3), h⟩) := by kernel_rfl
def o23_63_1 : List (Nat × AOper) := grp 111 false o23_63_1g o23_63_2
theorem w23_63_1 : wS fs out b o23_63_1 t h R = onG (t 111) false (wS fs out b o23_63_1g (upd t 111 (.v (.one (.bool false)))) h fun s => wS fs out b o23_63_2 s.t s.h R) (wS fs out b o23_63_2 (upd (upd (upd (upd (upd t 111 (.v (.one (.bool true)))) 112 (.tup [])) 113 (.tup [])) 114 (.tup [])) 115 (.tup [])) h R) (wS fs out b o23_63_2 (upd (upd (upd (upd t 112 (.tup [])) 113 (.tup [])) 114 (.tup [])) 115 (.tup [])) h R) := wS_grpE rfl
def o23_63 : List (Nat × AOper) := (0, ⟨some 108, .fadr 0 (.t 13), none⟩) ::
   (1, ⟨some 109, .load none (.t 108), none⟩) ::
   (2, ⟨some 110, .bin .lss (.t 109) (.k (.v (.one (.int .i64 0)))), none⟩) ::
   (3, ⟨some 111, .mov (.t 110), none⟩) ::
   o23_63_1
theorem h23_63 : wS fs out b o23_63 t h R = (wV fs out (b + 0) noT h (.fadr 0 (.k (t 13))) fun x108_0 h => wV fs out (b + 1) noT h (.load none (.k x108_0)) fun x109_1 h => wV fs out (b + 2) noT h (.bin .lss (.k x109_1) (.k (.v (.one (.int .i64 0))))) fun x110_2 h => wV fs out (b + 3) noT h (.mov (.k x110_2)) fun x111_3 h => wS fs out b o23_63_1 (upd (upd (upd (upd t 108 x108_0) 109 x109_1) 110 x110_2) 111 x111_3) h R) := by kernel_rfl
def c23_63 : ACode := .region (o23_63.map (·.2)) [0, 1, 2, 3, 4, 5, 6, 7, 8, 9, 10, 11, 12, 13, 14, 15, 16, 17, 18] []
theorem s23_63 (h : wS fs out s.h.nx o23_63 s.t ⟨s.h.o, s.h.nx + 19⟩ (Q .normal)) : wC fs out c23_63 s Q := wC_region rfl rfl h
def o23_66 : List (Nat × AOper) := (0, ⟨some 6, .mov (.k (.v (.one (.bool false)))), none⟩) ::
   []
theorem h23_66 : wS fs out b o23_66 t h R = (wV fs out (b + 0) noT h (.mov (.k (.v (.one (.bool false))))) fun x6_0 h => R ⟨(upd t 6 x6_0), h⟩) := by kernel_rfl
def c23_66 : ACode := .region (o23_66.map (·.2)) [0] []
theorem s23_66 (h : wS fs out s.h.nx o23_66 s.t ⟨s.h.o, s.h.nx + 1⟩ (Q .normal)) : wC fs out c23_66 s Q := wC_region rfl rfl h
def c23_65 : ACode := .seq c23_66 .ret
theorem s23_65 (h : wS fs out s.h.nx o23_66 s.t ⟨s.h.o, s.h.nx + 1⟩ fun s1 => wC fs out .ret s1 Q) : wC fs out c23_65 s Q := wC_seq (s23_66 h)
def c23_64 : ACode := .cond (.t 126) c23_65 .skip [1, 2, 6, 7, 12, 13, 101, 102, 103]
theorem s23_64 (h : onC (s.t 126) (wC fs out c23_65 s fun e s1 => Q e (keepOnly [1, 2, 6, 7, 12, 13, 101, 102, 103] s1)) (Q .normal (keepOnly [1, 2, 6, 7, 12, 13, 101, 102, 103] s))) : wC fs out c23_64 s Q := wC_condC (by first | exact h | (simp only [wC_skip, wC_exit, wC_ret]; exact h))
def c23_62 : ACode := .seq c23_63 c23_64
theorem s23_62 (h : wS fs out s.h.nx o23_63 s.t ⟨s.h.o, s.h.nx + 19⟩ fun s1 => wC fs out c23_64 s1 Q) : wC fs out c23_62 s Q := wC_seq (s23_63 h)
def o23_68 : List (Nat × AOper) := (0, ⟨some 127, .mov (.t 2), none⟩) ::
   (1, ⟨some 128, .mov (.t 12), none⟩) ::
   (2, ⟨some 129, .slc 2 (.t 127) none (some (.t 128)), none⟩) ::
   (3, ⟨some 130, .len (.t 129), none⟩) ::
   (4, ⟨some 131, .mov (.k (.v (.one (.int .i64 0)))), none⟩) ::
   []
theorem h23_68 : wS fs out b o23_68 t h R = (wV fs out (b + 0) noT h (.mov (.k (t 2))) fun x127_0 h => wV fs out (b + 1) noT h (.mov (.k (t 12))) fun x128_1 h => wV fs out (b + 2) noT h (.slc 2 (.k x127_0) none (some (.k x128_1))) fun x129_2 h => wV fs out (b + 3) noT h (.len (.k x129_2)) fun x130_3 h => wV fs out (b + 4) noT h (.mov (.k (.v (.one (.int .i64 0))))) fun x131_4 h => R ⟨(upd (upd (upd (upd (upd t 127 x127_0) 128 x128_1) 129 x129_2) 130 x130_3) 131 x131_4), h⟩) := by kernel_rfl
def c23_68 : ACode := .region (o23_68.map (·.2)) [0, 1, 2, 3, 4] []
theorem s23_68 (h : wS fs out s.h.nx o23_68 s.t ⟨s.h.o, s.h.nx + 5⟩ (Q .normal)) : wC fs out c23_68 s Q := wC_region rfl rfl h
def o23_72 : List (Nat × AOper) := (0, ⟨some 132, .bin .lss (.t 131) (.t 130), none⟩) ::
   []
theorem h23_72 : wS fs out b o23_72 t h R = (wV fs out (b + 0) noT h (.bin .lss (.k (t 131)) (.k (t 130))) fun x132_0 h => R ⟨(upd t 132 x132_0), h⟩) := by kernel_rfl
def c23_72 : ACode := .region (o23_72.map (·.2)) [0] []
theorem s23_72 (h : wS fs out s.h.nx o23_72 s.t ⟨s.h.o, s.h.nx + 1⟩ (Q .normal)) : wC fs out c23_72 s Q := wC_region rfl rfl h
def c23_74 : ACode := .cond (.t 132) .skip (.exit 6) [1, 2, 7, 13, 101, 102, 103, 129, 130, 131]
theorem s23_74 (h : onC (s.t 132) (Q .normal (keepOnly [1, 2, 7, 13, 101, 102, 103, 129, 130, 131] s)) (Q (.exit 6) (keepOnly [1, 2, 7, 13, 101, 102, 103, 129, 130, 131] s))) : wC fs out c23_74 s Q := wC_condC (by first | exact h | (simp only [wC_skip, wC_exit, wC_ret]; exact h))
def o23_78 : List (Nat × AOper) := (0, ⟨some 133, .iadr 2 (.t 129) (.t 131), none⟩) ::
   (1, ⟨some 134, .load (some 2) (.t 133), none⟩) ::
   (2, ⟨some 15, .new 39 [(.int .i64 0), (.int .i64 0)], none⟩) ::
   (3, ⟨none, .store 2 (.t 15) (.t 134), none⟩) ::
   []
theorem h23_78 : wS fs out b o23_78 t h R = (wV fs out (b + 0) noT h (.iadr 2 (.k (t 129)) (.k (t 131))) fun x133_0 h => wV fs out (b + 1) noT h (.load (some 2) (.k x133_0)) fun x134_1 h => wV fs out (b + 2) noT h (.new 39 [(.int .i64 0), (.int .i64 0)]) fun x15_2 h => wV fs out (b + 3) noT h (.store 2 (.k x15_2) (.k x134_1)) fun _ h => R ⟨(upd (upd (upd t 133 x133_0) 134 x134_1) 15 x15_2), h⟩) := by kernel_rfl
def c23_78 : ACode := .region (o23_78.map (·.2)) [0, 1, 2, 3] []
theorem s23_78 (h : wS fs out s.h.nx o23_78 s.t ⟨s.h.o, s.h.nx + 4⟩ (Q .normal)) : wC fs out c23_78 s Q := wC_region rfl rfl h
def o23_80 : List (Nat × AOper) := (0, ⟨some 135, .fadr 0 (.t 15), none⟩) ::
   (1, ⟨some 136, .load none (.t 135), none⟩) ::
   (2, ⟨some 137, .fadr 0 (.t 13), none⟩) ::
   (3, ⟨some 138, .load none (.t 137), none⟩) ::
   (4, ⟨some 139, .bin .eql (.t 136) (.t 138), none⟩) ::
   []
theorem h23_80 : wS fs out b o23_80 t h R = (wV fs out (b + 0) noT h (.fadr 0 (.k (t 15))) fun x135_0 h => wV fs out (b + 1) noT h (.load none (.k x135_0)) fun x136_1 h => wV fs out (b + 2) noT h (.fadr 0 (.k (t 13))) fun x137_2 h => wV fs out (b + 3) noT h (.load none (.k x137_2)) fun x138_3 h => wV fs out (b + 4) noT h (.bin .eql (.k x136_1) (.k x138_3)) fun x139_4 h => R ⟨(upd (upd (upd (upd (upd t 135 x135_0) 136 x136_1) 137 x137_2) 138 x138_3) 139 x139_4), h⟩) := by kernel_rfl
def c23_80 : ACode := .region (o23_80.map (·.2)) [0, 1, 2, 3, 4] []
theorem s23_80 (h : wS fs out s.h.nx o23_80 s.t ⟨s.h.o, s.h.nx + 5⟩ (Q .normal)) : wC fs out c23_80 s Q := wC_region rfl rfl h
def o23_83 : List (Nat × AOper) := (0, ⟨some 6, .mov (.k (.v (.one (.bool false)))), none⟩) ::
   []
theorem h23_83 : wS fs out b o23_83 t h R = (wV fs out (b + 0) noT h (.mov (.k (.v (.one (.bool false))))) fun x6_0 h => R ⟨(upd t 6 x6_0), h⟩) := by kernel_rfl
def c23_83 : ACode := .region (o23_83.map (·.2)) [0] []
theorem s23_83 (h : wS fs out s.h.nx o23_83 s.t ⟨s.h.o, s.h.nx + 1⟩ (Q .normal)) : wC fs out c23_83 s Q := wC_region rfl rfl h
def c23_82 : ACode := .seq c23_83 .ret
theorem s23_82 (h : wS fs out s.h.nx o23_83 s.t ⟨s.h.o, s.h.nx + 1⟩ fun s1 => wC fs out .ret s1 Q) : wC fs out c23_82 s Q := wC_seq (s23_83 h)
def c23_81 : ACode := .cond (.t 139) c23_82 .skip [1, 2, 6, 7, 13, 101, 102, 103, 129, 130, 131]
theorem s23_81 (h : onC (s.t 139) (wC fs out c23_82 s fun e s1 => Q e (keepOnly [1, 2, 6, 7, 13, 101, 102, 103, 129, 130, 131] s1)) (Q .normal (keepOnly [1, 2, 6, 7, 13, 101, 102, 103, 129, 130, 131] s))) : wC fs out c23_81 s Q := wC_condC (by first | exact h | (simp only [wC_skip, wC_exit, wC_ret]; exact h))
def c23_79 : ACode := .seq c23_80 c23_81
theorem s23_79 (h : wS fs out s.h.nx o23_80 s.t ⟨s.h.o, s.h.nx + 5⟩ fun s1 => wC fs out c23_81 s1 Q) : wC fs out c23_79 s Q := wC_seq (s23_80 h)
def c23_77 : ACode := .seq c23_78 c23_79
theorem s23_77 (h : wS fs out s.h.nx o23_78 s.t ⟨s.h.o, s.h.nx + 4⟩ fun s1 => wC fs out c23_79 s1 Q) : wC fs out c23_77 s Q := wC_seq (s23_78 h)
def c23_76 : ACode := .block 7 c23_77
theorem s23_76 (h : wC fs out c23_77 s fun e s1 => Q (if e = .exit 7 then .normal else e) s1) : wC fs out c23_76 s Q := wC_block h
def o23_84 : List (Nat × AOper) := (0, ⟨some 140, .bin .add (.t 131) (.k (.v (.one (.int .i64 1)))), none⟩) ::
   (1, ⟨some 131, .mov (.t 140), none⟩) ::
   []
theorem h23_84 : wS fs out b o23_84 t h R = (wV fs out (b + 0) noT h (.bin .add (.k (t 131)) (.k (.v (.one (.int .i64 1))))) fun x140_0 h => wV fs out (b + 1) noT h (.mov (.k x140_0)) fun x131_1 h => R ⟨(upd (upd t 140 x140_0) 131 x131_1), h⟩) := by kernel_rfl
def c23_84 : ACode := .region (o23_84.map (·.2)) [0, 1] []
theorem s23_84 (h : wS fs out s.h.nx o23_84 s.t ⟨s.h.o, s.h.nx + 2⟩ (Q .normal)) : wC fs out c23_84 s Q := wC_region rfl rfl h
def c23_75 : ACode := .seq c23_76 c23_84
theorem s23_75 (h : wC fs out c23_76 s fun e s1 => match e with | .normal => wC fs out c23_84 s1 Q | e => Q e s1) : wC fs out c23_75 s Q := wC_seq h
def c23_73 : ACode := .seq c23_74 c23_75
theorem s23_73 (h : onC (s.t 132) (wC fs out c23_75 (keepOnly [1, 2, 7, 13, 101, 102, 103, 129, 130, 131] s) Q) (Q (.exit 6) (keepOnly [1, 2, 7, 13, 101, 102, 103, 129, 130, 131] s))) : wC fs out c23_73 s Q := wC_seq (s23_74 h)
def c23_71 : ACode := .seq c23_72 c23_73
theorem s23_71 (h : wS fs out s.h.nx o23_72 s.t ⟨s.h.o, s.h.nx + 1⟩ fun s1 => wC fs out c23_73 s1 Q) : wC fs out c23_71 s Q := wC_seq (s23_72 h)
def c23_70 : ACode := .loop [1, 2, 7, 13, 101, 102, 103, 129, 130, 131] c23_71
theorem s23_70 (I : Nat → St → Prop) (n : Nat) (h0 : I n (keepOnly [1, 2, 7, 13, 101, 102, 103, 129, 130, 131] s)) (step : ∀ m s (Q' : AExit → St → Prop), I m s → (∀ m' s1, m' < m → I m' (keepOnly [1, 2, 7, 13, 101, 102, 103, 129, 130, 131] s1) → Q' .normal s1) → (∀ i s1, Q (.exit i) s1 → Q' (.exit i) s1) → (∀ s1, Q .ret s1 → Q' .ret s1) → wC fs out c23_71 s Q') : wC fs out c23_70 s Q := wC_loopQ I n h0 step
def c23_69 : ACode := .block 6 c23_70
theorem s23_69 (h : wC fs out c23_70 s fun e s1 => Q (if e = .exit 6 then .normal else e) s1) : wC fs out c23_69 s Q := wC_block h
def c23_67 : ACode := .seq c23_68 c23_69
theorem s23_67 (h : wS fs out s.h.nx o23_68 s.t ⟨s.h.o, s.h.nx + 5⟩ fun s1 => wC fs out c23_69 s1 Q) : wC fs out c23_67 s Q := wC_seq (s23_68 h)
def c23_61 : ACode := .seq c23_62 c23_67
theorem s23_61 (h : wC fs out c23_62 s fun e s1 => match e with | .normal => wC fs out c23_67 s1 Q | e => Q e s1) : wC fs out c23_61 s Q := wC_seq h
def c23_59 : ACode := .seq c23_60 c23_61
theorem s23_59 (h : wS fs out s.h.nx o23_60 s.t ⟨s.h.o, s.h.nx + 6⟩ fun s1 => wC fs out c23_61 s1 Q) : wC fs out c23_59 s Q := wC_seq (s23_60 h)
def c23_58 : ACode := .block 5 c23_59
theorem s23_58 (h : wC fs out c23_59 s fun e s1 => Q (if e = .exit 5 then .normal else e) s1) : wC fs out c23_58 s Q := wC_block h
def o23_85 : List (Nat × AOper) := (0, ⟨some 141, .bin .add (.t 103) (.k (.v (.one (.int .i64 1)))), none⟩) ::
   (1, ⟨some 103, .mov (.t 141), none⟩) ::
   []
theorem h23_85 : wS fs out b o23_85 t h R = (wV fs out (b + 0) noT h (.bin .add (.k (t 103)) (.k (.v (.one (.int .i64 1))))) fun x141_0 h => wV fs out (b + 1) noT h (.mov (.k x141_0)) fun x103_1 h => R ⟨(upd (upd t 141 x141_0) 103 x103_1), h⟩) := by kernel_rfl
def c23_85 : ACode := .region (o23_85.map (·.2)) [0, 1] []
theorem s23_85 (h : wS fs out s.h.nx o23_85 s.t ⟨s.h.o, s.h.nx + 2⟩ (Q .normal)) : wC fs out c23_85 s Q := wC_region rfl rfl h
def c23_57 : ACode := .seq c23_58 c23_85
theorem s23_57 (h : wC fs out c23_58 s fun e s1 => match e with | .normal => wC fs out c23_85 s1 Q | e => Q e s1) : wC fs out c23_57 s Q := wC_seq h
def c23_55 : ACode := .seq c23_56 c23_57
theorem s23_55 (h : onC (s.t 104) (wC fs out c23_57 (keepOnly [1, 2, 7, 101, 102, 103] s) Q) (Q (.exit 4) (keepOnly [1, 2, 7, 101, 102, 103] s))) : wC fs out c23_55 s Q := wC_seq (s23_56 h)
def c23_53 : ACode := .seq c23_54 c23_55
theorem s23_53 (h : wS fs out s.h.nx o23_54 s.t ⟨s.h.o, s.h.nx + 1⟩ fun s1 => wC fs out c23_55 s1 Q) : wC fs out c23_53 s Q := wC_seq (s23_54 h)
def c23_52 : ACode := .loop [1, 2, 7, 101, 102, 103] c23_53
theorem s23_52 (I : Nat → St → Prop) (n : Nat) (h0 : I n (keepOnly [1, 2, 7, 101, 102, 103] s)) (step : ∀ m s (Q' : AExit → St → Prop), I m s → (∀ m' s1, m' < m → I m' (keepOnly [1, 2, 7, 101, 102, 103] s1) → Q' .normal s1) → (∀ i s1, Q (.exit i) s1 → Q' (.exit i) s1) → (∀ s1, Q .ret s1 → Q' .ret s1) → wC fs out c23_53 s Q') : wC fs out c23_52 s Q := wC_loopQ I n h0 step
def c23_51 : ACode := .block 4 c23_52
theorem s23_51 (h : wC fs out c23_52 s fun e s1 => Q (if e = .exit 4 then .normal else e) s1) : wC fs out c23_51 s Q := wC_block h
def c23_49 : ACode := .seq c23_50 c23_51
theorem s23_49 (h : wS fs out s.h.nx o23_50 s.t ⟨s.h.o, s.h.nx + 3⟩ fun s1 => wC fs out c23_51 s1 Q) : wC fs out c23_49 s Q := wC_seq (s23_50 h)
def o23_87_1 : List (Nat × AOper) := (3, ⟨some 142, .mov (.t 145), none⟩) ::
   (4, ⟨some 146, .ext 0 (.t 142), none⟩) ::
   (5, ⟨some 147, .ext 1 (.t 142), none⟩) ::
   (6, ⟨some 16, .mov (.t 146), none⟩) ::
   (7, ⟨some 17, .mov (.t 147), none⟩) ::
   []
theorem h23_87_1 : wS fs out b o23_87_1 t h R = (wV fs out (b + 3) noT h (.mov (.k (t 145))) fun x142_0 h => wV fs out (b + 4) noT h (.ext 0 (.k x142_0)) fun x146_1 h => wV fs out (b + 5) noT h (.ext 1 (.k x142_0)) fun x147_2 h => wV fs out (b + 6) noT h (.mov (.k x146_1)) fun x16_3 h => wV fs out (b + 7) noT h (.mov (.k x147_2)) fun x17_4 h => R ⟨(upd (upd (upd (upd (upd t 142 x142_0) 146 x146_1) 147 x147_2) 16 x16_3) 17 x17_4), h⟩) := by kernel_rfl
def o23_87 : List (Nat × AOper) := (0, ⟨some 143, .mov (.t 7), none⟩) ::
   (1, ⟨some 144, .mov (.t 1), none⟩) ::
   (2, ⟨some 145, .call 29 [(.t 143), (.t 144)], none⟩) ::
   o23_87_1
theorem h23_87 : wS fs out b o23_87 t h R = (wV fs out (b + 0) noT h (.mov (.k (t 7))) fun x143_0 h => wV fs out (b + 1) noT h (.mov (.k (t 1))) fun x144_1 h => wV fs out (b + 2) noT h (.call 29 [(.k x143_0), (.k x144_1)]) fun x145_2 h => wS fs out b o23_87_1 (upd (upd (upd t 143 x143_0) 144 x144_1) 145 x145_2) h R) := by kernel_rfl
def c23_87 : ACode := .region (o23_87.map (·.2)) [0, 1, 2, 3, 4, 5, 6, 7] []
theorem s23_87 (h : wS fs out s.h.nx o23_87 s.t ⟨s.h.o, s.h.nx + 8⟩ (Q .normal)) : wC fs out c23_87 s Q := wC_region rfl rfl h
def o23_89 : List (Nat × AOper) := (0, ⟨some 148, .mov (.t 17), none⟩) ::
   (1, ⟨some 6, .mov (.t 148), none⟩) ::
   []
theorem h23_89 : wS fs out b o23_89 t h R = (wV fs out (b + 0) noT h (.mov (.k (t 17))) fun x148_0 h => wV fs out (b + 1) noT h (.mov (.k x148_0)) fun x6_1 h => R ⟨(upd (upd t 148 x148_0) 6 x6_1), h⟩) := by kernel_rfl
def c23_89 : ACode := .region (o23_89.map (·.2)) [0, 1] []
theorem s23_89 (h : wS fs out s.h.nx o23_89 s.t ⟨s.h.o, s.h.nx + 2⟩ (Q .normal)) : wC fs out c23_89 s Q := wC_region rfl rfl h
def c23_88 : ACode := .seq c23_89 .ret
theorem s23_88 (h : wS fs out s.h.nx o23_89 s.t ⟨s.h.o, s.h.nx + 2⟩ fun s1 => wC fs out .ret s1 Q) : wC fs out c23_88 s Q := wC_seq (s23_89 h)
def c23_86 : ACode := .seq c23_87 c23_88
theorem s23_86 (h : wS fs out s.h.nx o23_87 s.t ⟨s.h.o, s.h.nx + 8⟩ fun s1 => wC fs out c23_88 s1 Q) : wC fs out c23_86 s Q := wC_seq (s23_87 h)
def c23_48 : ACode := .seq c23_49 c23_86
theorem s23_48 (h : wC fs out c23_49 s fun e s1 => match e with | .normal => wC fs out c23_86 s1 Q | e => Q e s1) : wC fs out c23_48 s Q := wC_seq h
def c23_29 : ACode := .seq c23_30 c23_48
theorem s23_29 (h : wC fs out c23_30 s fun e s1 => match e with | .normal => wC fs out c23_48 s1 Q | e => Q e s1) : wC fs out c23_29 s Q := wC_seq h
def c23_10 : ACode := .seq c23_11 c23_29
theorem s23_10 (h : wC fs out c23_11 s fun e s1 => match e with | .normal => wC fs out c23_29 s1 Q | e => Q e s1) : wC fs out c23_10 s Q := wC_seq h
def c23_4 : ACode := .seq c23_5 c23_10
theorem s23_4 (h : wC fs out c23_5 s fun e s1 => match e with | .normal => wC fs out c23_10 s1 Q | e => Q e s1) : wC fs out c23_4 s Q := wC_seq h
def c23_2 : ACode := .seq c23_3 c23_4
theorem s23_2 (h : wS fs out s.h.nx o23_3 s.t ⟨s.h.o, s.h.nx + 3⟩ fun s1 => wC fs out c23_4 s1 Q) : wC fs out c23_2 s Q := wC_seq (s23_3 h)
def c23_0 : ACode := .seq c23_1 c23_2
theorem s23_0 (h : wS fs out s.h.nx o23_1 s.t ⟨s.h.o, s.h.nx + 1⟩ fun s1 => wC fs out c23_2 s1 Q) : wC fs out c23_0 s Q := wC_seq (s23_1 h)
def a23 : AFunc := ⟨3, [6], none, c23_0⟩
theorem t23 : tell Try.prog Try.f23 [([0, 1, 2, 6, 7], [], []), ([1, 2, 7, 32, 33, 34], [], []), ([1, 2, 7, 32, 33, 34], [], []), ([1, 2, 6, 7, 32, 33, 34], [], []), ([1, 2, 7, 47, 48, 49], [], []), ([1, 2, 7, 47, 48, 49], [], []), ([1, 2, 6, 7, 47, 48, 49], [], []), ([1, 2, 7, 101, 102, 103], [], []), ([1, 2, 7, 101, 102, 103], [], []), ([1, 2, 6, 7, 12, 13, 101, 102, 103], [], []), ([1, 2, 7, 13, 101, 102, 103, 129, 130, 131], [], []), ([1, 2, 7, 13, 101, 102, 103, 129, 130, 131], [], []), ([1, 2, 6, 7, 13, 101, 102, 103, 129, 130, 131], [], [])] = some a23 := by kernel_rfl
theorem ok23 : FuncOk Try.prog 23 a23 := tell_ok Try.func23 t23

/-- railplan/railplankeep.Same[bool] -/
def o24_1 : List (Nat × AOper) := (0, ⟨some 4, .mov (.k (.v (.one (.bool false)))), none⟩) ::
   []
theorem h24_1 : wS fs out b o24_1 t h R = (wV fs out (b + 0) noT h (.mov (.k (.v (.one (.bool false))))) fun x4_0 h => R ⟨(upd t 4 x4_0), h⟩) := by kernel_rfl
def c24_1 : ACode := .region (o24_1.map (·.2)) [0] []
theorem s24_1 (h : wS fs out s.h.nx o24_1 s.t ⟨s.h.o, s.h.nx + 1⟩ (Q .normal)) : wC fs out c24_1 s Q := wC_region rfl rfl h
def o24_4 : List (Nat × AOper) := (0, ⟨some 6, .mov (.t 0), none⟩) ::
   (1, ⟨some 7, .len (.t 6), none⟩) ::
   (2, ⟨some 8, .mov (.t 1), none⟩) ::
   (3, ⟨some 9, .len (.t 8), none⟩) ::
   (4, ⟨some 10, .bin .neq (.t 7) (.t 9), none⟩) ::
   []
theorem h24_4 : wS fs out b o24_4 t h R = (wV fs out (b + 0) noT h (.mov (.k (t 0))) fun x6_0 h => wV fs out (b + 1) noT h (.len (.k x6_0)) fun x7_1 h => wV fs out (b + 2) noT h (.mov (.k (t 1))) fun x8_2 h => wV fs out (b + 3) noT h (.len (.k x8_2)) fun x9_3 h => wV fs out (b + 4) noT h (.bin .neq (.k x7_1) (.k x9_3)) fun x10_4 h => R ⟨(upd (upd (upd (upd (upd t 6 x6_0) 7 x7_1) 8 x8_2) 9 x9_3) 10 x10_4), h⟩) := by kernel_rfl
def c24_4 : ACode := .region (o24_4.map (·.2)) [0, 1, 2, 3, 4] []
theorem s24_4 (h : wS fs out s.h.nx o24_4 s.t ⟨s.h.o, s.h.nx + 5⟩ (Q .normal)) : wC fs out c24_4 s Q := wC_region rfl rfl h
def o24_7 : List (Nat × AOper) := (0, ⟨some 4, .mov (.k (.v (.one (.bool false)))), none⟩) ::
   []
theorem h24_7 : wS fs out b o24_7 t h R = (wV fs out (b + 0) noT h (.mov (.k (.v (.one (.bool false))))) fun x4_0 h => R ⟨(upd t 4 x4_0), h⟩) := by kernel_rfl
def c24_7 : ACode := .region (o24_7.map (·.2)) [0] []
theorem s24_7 (h : wS fs out s.h.nx o24_7 s.t ⟨s.h.o, s.h.nx + 1⟩ (Q .normal)) : wC fs out c24_7 s Q := wC_region rfl rfl h
def c24_6 : ACode := .seq c24_7 .ret
theorem s24_6 (h : wS fs out s.h.nx o24_7 s.t ⟨s.h.o, s.h.nx + 1⟩ fun s1 => wC fs out .ret s1 Q) : wC fs out c24_6 s Q := wC_seq (s24_7 h)
def c24_5 : ACode := .cond (.t 10) c24_6 .skip [0, 1, 4]
theorem s24_5 (h : onC (s.t 10) (wC fs out c24_6 s fun e s1 => Q e (keepOnly [0, 1, 4] s1)) (Q .normal (keepOnly [0, 1, 4] s))) : wC fs out c24_5 s Q := wC_condC (by first | exact h | (simp only [wC_skip, wC_exit, wC_ret]; exact h))
def c24_3 : ACode := .seq c24_4 c24_5
theorem s24_3 (h : wS fs out s.h.nx o24_4 s.t ⟨s.h.o, s.h.nx + 5⟩ fun s1 => wC fs out c24_5 s1 Q) : wC fs out c24_3 s Q := wC_seq (s24_4 h)
def o24_10 : List (Nat × AOper) := (0, ⟨some 11, .mov (.t 0), none⟩) ::
   (1, ⟨some 12, .len (.t 11), none⟩) ::
   (2, ⟨some 13, .mov (.k (.v (.one (.int .i64 0)))), none⟩) ::
   []
theorem h24_10 : wS fs out b o24_10 t h R = (wV fs out (b + 0) noT h (.mov (.k (t 0))) fun x11_0 h => wV fs out (b + 1) noT h (.len (.k x11_0)) fun x12_1 h => wV fs out (b + 2) noT h (.mov (.k (.v (.one (.int .i64 0))))) fun x13_2 h => R ⟨(upd (upd (upd t 11 x11_0) 12 x12_1) 13 x13_2), h⟩) := by kernel_rfl
def c24_10 : ACode := .region (o24_10.map (·.2)) [0, 1, 2] []
theorem s24_10 (h : wS fs out s.h.nx o24_10 s.t ⟨s.h.o, s.h.nx + 3⟩ (Q .normal)) : wC fs out c24_10 s Q := wC_region rfl rfl h
def o24_14 : List (Nat × AOper) := (0, ⟨some 14, .bin .lss (.t 13) (.t 12), none⟩) ::
   []
theorem h24_14 : wS fs out b o24_14 t h R = (wV fs out (b + 0) noT h (.bin .lss (.k (t 13)) (.k (t 12))) fun x14_0 h => R ⟨(upd t 14 x14_0), h⟩) := by kernel_rfl
def c24_14 : ACode := .region (o24_14.map (·.2)) [0] []
theorem s24_14 (h : wS fs out s.h.nx o24_14 s.t ⟨s.h.o, s.h.nx + 1⟩ (Q .normal)) : wC fs out c24_14 s Q := wC_region rfl rfl h
def c24_16 : ACode := .cond (.t 14) .skip (.exit 0) [0, 1, 12, 13]
theorem s24_16 (h : onC (s.t 14) (Q .normal (keepOnly [0, 1, 12, 13] s)) (Q (.exit 0) (keepOnly [0, 1, 12, 13] s))) : wC fs out c24_16 s Q := wC_condC (by first | exact h | (simp only [wC_skip, wC_exit, wC_ret]; exact h))
def o24_20 : List (Nat × AOper) := (0, ⟨some 15, .mov (.t 13), none⟩) ::
   (1, ⟨some 5, .mov (.t 15), none⟩) ::
   []
theorem h24_20 : wS fs out b o24_20 t h R = (wV fs out (b + 0) noT h (.mov (.k (t 13))) fun x15_0 h => wV fs out (b + 1) noT h (.mov (.k x15_0)) fun x5_1 h => R ⟨(upd (upd t 15 x15_0) 5 x5_1), h⟩) := by kernel_rfl
def c24_20 : ACode := .region (o24_20.map (·.2)) [0, 1] []
theorem s24_20 (h : wS fs out s.h.nx o24_20 s.t ⟨s.h.o, s.h.nx + 2⟩ (Q .normal)) : wC fs out c24_20 s Q := wC_region rfl rfl h
def o24_22 : List (Nat × AOper) := (0, ⟨some 16, .mov (.t 0), none⟩) ::
   (1, ⟨some 17, .mov (.t 5), none⟩) ::
   (2, ⟨some 18, .iadr 1 (.t 16) (.t 17), none⟩) ::
   (3, ⟨some 19, .load none (.t 18), none⟩) ::
   (4, ⟨some 20, .mov (.t 1), none⟩) ::
   (5, ⟨some 21, .mov (.t 5), none⟩) ::
   (6, ⟨some 22, .iadr 1 (.t 20) (.t 21), none⟩) ::
   (7, ⟨some 23, .load none (.t 22), none⟩) ::
   (8, ⟨some 24, .eqb true (.t 19) (.t 23), none⟩) ::
   []
theorem h24_22 : wS fs out b o24_22 t h R = (wV fs out (b + 0) noT h (.mov (.k (t 0))) fun x16_0 h => wV fs out (b + 1) noT h (.mov (.k (t 5))) fun x17_1 h => wV fs out (b + 2) noT h (.iadr 1 (.k x16_0) (.k x17_1)) fun x18_2 h => wV fs out (b + 3) noT h (.load none (.k x18_2)) fun x19_3 h => wV fs out (b + 4) noT h (.mov (.k (t 1))) fun x20_4 h => wV fs out (b + 5) noT h (.mov (.k (t 5))) fun x21_5 h => wV fs out (b + 6) noT h (.iadr 1 (.k x20_4) (.k x21_5)) fun x22_6 h => wV fs out (b + 7) noT h (.load none (.k x22_6)) fun x23_7 h => wV fs out (b + 8) noT h (.eqb true (.k x19_3) (.k x23_7)) fun x24_8 h => R ⟨(upd (upd (upd (upd (upd (upd (upd (upd (upd t 16 x16_0) 17 x17_1) 18 x18_2) 19 x19_3) 20 x20_4) 21 x21_5) 22 x22_6) 23 x23_7) 24 x24_8), h⟩) := by kernel_rfl
def c24_22 : ACode := .region (o24_22.map (·.2)) [0, 1, 2, 3, 4, 5, 6, 7, 8] []
theorem s24_22 (h : wS fs out s.h.nx o24_22 s.t ⟨s.h.o, s.h.nx + 9⟩ (Q .normal)) : wC fs out c24_22 s Q := wC_region rfl rfl h
def o24_25 : List (Nat × AOper) := (0, ⟨some 4, .mov (.k (.v (.one (.bool false)))), none⟩) ::
   []
theorem h24_25 : wS fs out b o24_25 t h R = (wV fs out (b + 0) noT h (.mov (.k (.v (.one (.bool false))))) fun x4_0 h => R ⟨(upd t 4 x4_0), h⟩) := by kernel_rfl
def c24_25 : ACode := .region (o24_25.map (·.2)) [0] []
theorem s24_25 (h : wS fs out s.h.nx o24_25 s.t ⟨s.h.o, s.h.nx + 1⟩ (Q .normal)) : wC fs out c24_25 s Q := wC_region rfl rfl h
def c24_24 : ACode := .seq c24_25 .ret
theorem s24_24 (h : wS fs out s.h.nx o24_25 s.t ⟨s.h.o, s.h.nx + 1⟩ fun s1 => wC fs out .ret s1 Q) : wC fs out c24_24 s Q := wC_seq (s24_25 h)
def c24_23 : ACode := .cond (.t 24) c24_24 .skip [0, 1, 4, 12, 13]
theorem s24_23 (h : onC (s.t 24) (wC fs out c24_24 s fun e s1 => Q e (keepOnly [0, 1, 4, 12, 13] s1)) (Q .normal (keepOnly [0, 1, 4, 12, 13] s))) : wC fs out c24_23 s Q := wC_condC (by first | exact h | (simp only [wC_skip, wC_exit, wC_ret]; exact h))
def c24_21 : ACode := .seq c24_22 c24_23
theorem s24_21 (h : wS fs out s.h.nx o24_22 s.t ⟨s.h.o, s.h.nx + 9⟩ fun s1 => wC fs out c24_23 s1 Q) : wC fs out c24_21 s Q := wC_seq (s24_22 h)
def c24_19 : ACode := .seq c24_20 c24_21
theorem s24_19 (h : wS fs out s.h.nx o24_20 s.t ⟨s.h.o, s.h.nx + 2⟩ fun s1 => wC fs out c24_21 s1 Q) : wC fs out c24_19 s Q := wC_seq (s24_20 h)
def c24_18 : ACode := .block 1 c24_19
theorem s24_18 (h : wC fs out c24_19 s fun e s1 => Q (if e = .exit 1 then .normal else e) s1) : wC fs out c24_18 s Q := wC_block h
def o24_26 : List (Nat × AOper) := (0, ⟨some 25, .bin .add (.t 13) (.k (.v (.one (.int .i64 1)))), none⟩) ::
   (1, ⟨some 13, .mov (.t 25), none⟩) ::
   []
theorem h24_26 : wS fs out b o24_26 t h R = (wV fs out (b + 0) noT h (.bin .add (.k (t 13)) (.k (.v (.one (.int .i64 1))))) fun x25_0 h => wV fs out (b + 1) noT h (.mov (.k x25_0)) fun x13_1 h => R ⟨(upd (upd t 25 x25_0) 13 x13_1), h⟩) := by kernel_rfl
def c24_26 : ACode := .region (o24_26.map (·.2)) [0, 1] []
theorem s24_26 (h : wS fs out s.h.nx o24_26 s.t ⟨s.h.o, s.h.nx + 2⟩ (Q .normal)) : wC fs out c24_26 s Q := wC_region rfl rfl h
def c24_17 : ACode := .seq c24_18 c24_26
theorem s24_17 (h : wC fs out c24_18 s fun e s1 => match e with | .normal => wC fs out c24_26 s1 Q | e => Q e s1) : wC fs out c24_17 s Q := wC_seq h
def c24_15 : ACode := .seq c24_16 c24_17
theorem s24_15 (h : onC (s.t 14) (wC fs out c24_17 (keepOnly [0, 1, 12, 13] s) Q) (Q (.exit 0) (keepOnly [0, 1, 12, 13] s))) : wC fs out c24_15 s Q := wC_seq (s24_16 h)
def c24_13 : ACode := .seq c24_14 c24_15
theorem s24_13 (h : wS fs out s.h.nx o24_14 s.t ⟨s.h.o, s.h.nx + 1⟩ fun s1 => wC fs out c24_15 s1 Q) : wC fs out c24_13 s Q := wC_seq (s24_14 h)
def c24_12 : ACode := .loop [0, 1, 12, 13] c24_13
theorem s24_12 (I : Nat → St → Prop) (n : Nat) (h0 : I n (keepOnly [0, 1, 12, 13] s)) (step : ∀ m s (Q' : AExit → St → Prop), I m s → (∀ m' s1, m' < m → I m' (keepOnly [0, 1, 12, 13] s1) → Q' .normal s1) → (∀ i s1, Q (.exit i) s1 → Q' (.exit i) s1) → (∀ s1, Q .ret s1 → Q' .ret s1) → wC fs out c24_13 s Q') : wC fs out c24_12 s Q := wC_loopQ I n h0 step
def c24_11 : ACode := .block 0 c24_12
theorem s24_11 (h : wC fs out c24_12 s fun e s1 => Q (if e = .exit 0 then .normal else e) s1) : wC fs out c24_11 s Q := wC_block h
def c24_9 : ACode := .seq c24_10 c24_11
theorem s24_9 (h : wS fs out s.h.nx o24_10 s.t ⟨s.h.o, s.h.nx + 3⟩ fun s1 => wC fs out c24_11 s1 Q) : wC fs out c24_9 s Q := wC_seq (s24_10 h)
def o24_28 : List (Nat × AOper) := (0, ⟨some 4, .mov (.k (.v (.one (.bool true)))), none⟩) ::
   []
theorem h24_28 : wS fs out b o24_28 t h R = (wV fs out (b + 0) noT h (.mov (.k (.v (.one (.bool true))))) fun x4_0 h => R ⟨(upd t 4 x4_0), h⟩) := by kernel_rfl
def c24_28 : ACode := .region (o24_28.map (·.2)) [0] []
theorem s24_28 (h : wS fs out s.h.nx o24_28 s.t ⟨s.h.o, s.h.nx + 1⟩ (Q .normal)) : wC fs out c24_28 s Q := wC_region rfl rfl h
def c24_27 : ACode := .seq c24_28 .ret
theorem s24_27 (h : wS fs out s.h.nx o24_28 s.t ⟨s.h.o, s.h.nx + 1⟩ fun s1 => wC fs out .ret s1 Q) : wC fs out c24_27 s Q := wC_seq (s24_28 h)
def c24_8 : ACode := .seq c24_9 c24_27
theorem s24_8 (h : wC fs out c24_9 s fun e s1 => match e with | .normal => wC fs out c24_27 s1 Q | e => Q e s1) : wC fs out c24_8 s Q := wC_seq h
def c24_2 : ACode := .seq c24_3 c24_8
theorem s24_2 (h : wC fs out c24_3 s fun e s1 => match e with | .normal => wC fs out c24_8 s1 Q | e => Q e s1) : wC fs out c24_2 s Q := wC_seq h
def c24_0 : ACode := .seq c24_1 c24_2
theorem s24_0 (h : wS fs out s.h.nx o24_1 s.t ⟨s.h.o, s.h.nx + 1⟩ fun s1 => wC fs out c24_2 s1 Q) : wC fs out c24_0 s Q := wC_seq (s24_1 h)
def a24 : AFunc := ⟨2, [4], none, c24_0⟩
theorem t24 : tell Try.prog Try.f24 [([0, 1, 4], [], []), ([0, 1, 12, 13], [], []), ([0, 1, 12, 13], [], []), ([0, 1, 2, 3, 4, 5, 6, 7, 8], [], [0, 0, 3, 7, 0, 0, 48, 112, 255]), ([0, 1, 4, 12, 13], [], [])] = some a24 := by kernel_rfl
theorem ok24 : FuncOk Try.prog 24 a24 := tell_ok Try.func24 t24

end Go.Proofs.Ythoicdnlcnppgaa.Fn
