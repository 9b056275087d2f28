/- Functions of the program, as the abstract machine's, and that they are. Conditions: none. -/
import Derived.Test.YthoicdnlcnppgaaAmCo
import Derived.Test.YthoicdnlcnppgaaAmEv
import Derived.Test.YthoicdnlcnppgaaProg
set_option linter.unusedVariables false
set_option linter.unusedSimpArgs false
namespace Go.Proofs.Ythoicdnlcnppgaa.Fn
open Go Go.Am
set_option maxRecDepth 100000
variable {fs : Nat → Option AFunc} {out : Rec} {s : St} {Q : AExit → St → Prop} {b : Nat} {t : Nat → T} {h : AH} {R : St → Prop}
/-- railplan/delay.sorted -/
def o32_1 : List (Nat × AOper) := (0, ⟨some 4, .mov (.k (.v (.one .nils))), none⟩) ::
   (1, ⟨some 5, .mov (.k (.v (.one (.bool false)))), none⟩) ::
   []
theorem h32_1 : wS fs out b o32_1 t h R = (wV fs out (b + 0) noT h (.mov (.k (.v (.one .nils)))) fun x4_0 h => wV fs out (b + 1) noT h (.mov (.k (.v (.one (.bool false))))) fun x5_1 h => R ⟨(upd (upd t 4 x4_0) 5 x5_1), h⟩) := by kernel_rfl
def c32_1 : ACode := .region (o32_1.map (·.2)) [0, 1] []
theorem s32_1 (h : wS fs out s.h.nx o32_1 s.t ⟨s.h.o, s.h.nx + 2⟩ (Q .normal)) : wC fs out c32_1 s Q := wC_region rfl rfl h
def o32_3 : List (Nat × AOper) := (0, ⟨some 15, .mov (.t 0), none⟩) ::
   (1, ⟨some 16, .mks 3 1 8 [(.int .i64 0)] (.t 15) (.t 15), none⟩) ::
   (2, ⟨some 6, .mov (.t 16), none⟩) ::
   []
theorem h32_3 : wS fs out b o32_3 t h R = (wV fs out (b + 0) noT h (.mov (.k (t 0))) fun x15_0 h => wV fs out (b + 1) noT h (.mks 3 1 8 [(.int .i64 0)] (.k x15_0) (.k x15_0)) fun x16_1 h => wV fs out (b + 2) noT h (.mov (.k x16_1)) fun x6_2 h => R ⟨(upd (upd (upd t 15 x15_0) 16 x16_1) 6 x6_2), h⟩) := by kernel_rfl
def c32_3 : ACode := .region (o32_3.map (·.2)) [0, 1, 2] []
theorem s32_3 (h : wS fs out s.h.nx o32_3 s.t ⟨s.h.o, s.h.nx + 3⟩ (Q .normal)) : wC fs out c32_3 s Q := wC_region rfl rfl h
def o32_6 : List (Nat × AOper) := (0, ⟨some 17, .mov (.t 1), none⟩) ::
   (1, ⟨some 18, .len (.t 17), none⟩) ::
   (2, ⟨some 19, .mov (.k (.v (.one (.int .i64 0)))), none⟩) ::
   []
theorem h32_6 : wS fs out b o32_6 t h R = (wV fs out (b + 0) noT h (.mov (.k (t 1))) fun x17_0 h => wV fs out (b + 1) noT h (.len (.k x17_0)) fun x18_1 h => wV fs out (b + 2) noT h (.mov (.k (.v (.one (.int .i64 0))))) fun x19_2 h => R ⟨(upd (upd (upd t 17 x17_0) 18 x18_1) 19 x19_2), h⟩) := by kernel_rfl
def c32_6 : ACode := .region (o32_6.map (·.2)) [0, 1, 2] []
theorem s32_6 (h : wS fs out s.h.nx o32_6 s.t ⟨s.h.o, s.h.nx + 3⟩ (Q .normal)) : wC fs out c32_6 s Q := wC_region rfl rfl h
def o32_10 : List (Nat × AOper) := (0, ⟨some 20, .bin .lss (.t 19) (.t 18), none⟩) ::
   []
theorem h32_10 : wS fs out b o32_10 t h R = (wV fs out (b + 0) noT h (.bin .lss (.k (t 19)) (.k (t 18))) fun x20_0 h => R ⟨(upd t 20 x20_0), h⟩) := by kernel_rfl
def c32_10 : ACode := .region (o32_10.map (·.2)) [0] []
theorem s32_10 (h : wS fs out s.h.nx o32_10 s.t ⟨s.h.o, s.h.nx + 1⟩ (Q .normal)) : wC fs out c32_10 s Q := wC_region rfl rfl h
def c32_12 : ACode := .cond (.t 20) .skip (.exit 0) [0, 1, 6, 17, 18, 19]
theorem s32_12 (h : onC (s.t 20) (Q .normal (keepOnly [0, 1, 6, 17, 18, 19] s)) (Q (.exit 0) (keepOnly [0, 1, 6, 17, 18, 19] s))) : wC fs out c32_12 s Q := wC_condC (by first | exact h | (simp only [wC_skip, wC_exit, wC_ret]; exact h))
def o32_16 : List (Nat × AOper) := (0, ⟨some 21, .iadr 4 (.t 17) (.t 19), none⟩) ::
   (1, ⟨some 22, .load (some 4) (.t 21), none⟩) ::
   (2, ⟨some 8, .new 35 [(.int .i64 0), (.int .i64 0), (.int .i64 0), (.int .i64 0)], none⟩) ::
   (3, ⟨none, .store 4 (.t 8) (.t 22), none⟩) ::
   []
theorem h32_16 : wS fs out b o32_16 t h R = (wV fs out (b + 0) noT h (.iadr 4 (.k (t 17)) (.k (t 19))) fun x21_0 h => wV fs out (b + 1) noT h (.load (some 4) (.k x21_0)) fun x22_1 h => wV fs out (b + 2) noT h (.new 35 [(.int .i64 0), (.int .i64 0), (.int .i64 0), (.int .i64 0)]) fun x8_2 h => wV fs out (b + 3) noT h (.store 4 (.k x8_2) (.k x22_1)) fun _ h => R ⟨(upd (upd (upd t 21 x21_0) 22 x22_1) 8 x8_2), h⟩) := by kernel_rfl
def c32_16 : ACode := .region (o32_16.map (·.2)) [0, 1, 2, 3] []
theorem s32_16 (h : wS fs out s.h.nx o32_16 s.t ⟨s.h.o, s.h.nx + 4⟩ (Q .normal)) : wC fs out c32_16 s Q := wC_region rfl rfl h
def o32_17 : List (Nat × AOper) := (0, ⟨some 23, .mov (.t 6), none⟩) ::
   (1, ⟨some 24, .fadr 1 (.t 8), none⟩) ::
   (2, ⟨some 25, .load none (.t 24), none⟩) ::
   (3, ⟨some 26, .iadr 1 (.t 23) (.t 25), none⟩) ::
   (4, ⟨some 27, .load none (.t 26), none⟩) ::
   (5, ⟨some 28, .bin .add (.t 27) (.k (.v (.one (.int .i64 1)))), none⟩) ::
   (6, ⟨some 29, .iadr 1 (.t 23) (.t 25), none⟩) ::
   (7, ⟨none, .store 1 (.t 29) (.t 28), none⟩) ::
   []
theorem h32_17 : wS fs out b o32_17 t h R = (wV fs out (b + 0) noT h (.mov (.k (t 6))) fun x23_0 h => wV fs out (b + 1) noT h (.fadr 1 (.k (t 8))) fun x24_1 h => wV fs out (b + 2) noT h (.load none (.k x24_1)) fun x25_2 h => wV fs out (b + 3) noT h (.iadr 1 (.k x23_0) (.k x25_2)) fun x26_3 h => wV fs out (b + 4) noT h (.load none (.k x26_3)) fun x27_4 h => wV fs out (b + 5) noT h (.bin .add (.k x27_4) (.k (.v (.one (.int .i64 1))))) fun x28_5 h => wV fs out (b + 6) noT h (.iadr 1 (.k x23_0) (.k x25_2)) fun x29_6 h => wV fs out (b + 7) noT h (.store 1 (.k x29_6) (.k x28_5)) fun _ h => R ⟨(upd (upd (upd (upd (upd (upd (upd t 23 x23_0) 24 x24_1) 25 x25_2) 26 x26_3) 27 x27_4) 28 x28_5) 29 x29_6), h⟩) := by kernel_rfl
def c32_17 : ACode := .region (o32_17.map (·.2)) [0, 1, 2, 3, 4, 5, 6, 7] []
theorem s32_17 (h : wS fs out s.h.nx o32_17 s.t ⟨s.h.o, s.h.nx + 8⟩ (Q .normal)) : wC fs out c32_17 s Q := wC_region rfl rfl h
def c32_15 : ACode := .seq c32_16 c32_17
theorem s32_15 (h : wS fs out s.h.nx o32_16 s.t ⟨s.h.o, s.h.nx + 4⟩ fun s1 => wC fs out c32_17 s1 Q) : wC fs out c32_15 s Q := wC_seq (s32_16 h)
def c32_14 : ACode := .block 1 c32_15
theorem s32_14 (h : wC fs out c32_15 s fun e s1 => Q (if e = .exit 1 then .normal else e) s1) : wC fs out c32_14 s Q := wC_block h
def o32_18 : List (Nat × AOper) := (0, ⟨some 30, .bin .add (.t 19) (.k (.v (.one (.int .i64 1)))), none⟩) ::
   (1, ⟨some 19, .mov (.t 30), none⟩) ::
   []
theorem h32_18 : wS fs out b o32_18 t h R = (wV fs out (b + 0) noT h (.bin .add (.k (t 19)) (.k (.v (.one (.int .i64 1))))) fun x30_0 h => wV fs out (b + 1) noT h (.mov (.k x30_0)) fun x19_1 h => R ⟨(upd (upd t 30 x30_0) 19 x19_1), h⟩) := by kernel_rfl
def c32_18 : ACode := .region (o32_18.map (·.2)) [0, 1] []
theorem s32_18 (h : wS fs out s.h.nx o32_18 s.t ⟨s.h.o, s.h.nx + 2⟩ (Q .normal)) : wC fs out c32_18 s Q := wC_region rfl rfl h
def c32_13 : ACode := .seq c32_14 c32_18
theorem s32_13 (h : wC fs out c32_14 s fun e s1 => match e with | .normal => wC fs out c32_18 s1 Q | e => Q e s1) : wC fs out c32_13 s Q := wC_seq h
def c32_11 : ACode := .seq c32_12 c32_13
theorem s32_11 (h : onC (s.t 20) (wC fs out c32_13 (keepOnly [0, 1, 6, 17, 18, 19] s) Q) (Q (.exit 0) (keepOnly [0, 1, 6, 17, 18, 19] s))) : wC fs out c32_11 s Q := wC_seq (s32_12 h)
def c32_9 : ACode := .seq c32_10 c32_11
theorem s32_9 (h : wS fs out s.h.nx o32_10 s.t ⟨s.h.o, s.h.nx + 1⟩ fun s1 => wC fs out c32_11 s1 Q) : wC fs out c32_9 s Q := wC_seq (s32_10 h)
def c32_8 : ACode := .loop [0, 1, 6, 17, 18, 19] c32_9
theorem s32_8 (I : Nat → St → Prop) (n : Nat) (h0 : I n (keepOnly [0, 1, 6, 17, 18, 19] s)) (step : ∀ m s (Q' : AExit → St → Prop), I m s → (∀ m' s1, m' < m → I m' (keepOnly [0, 1, 6, 17, 18, 19] s1) → Q' .normal s1) → (∀ i s1, Q (.exit i) s1 → Q' (.exit i) s1) → (∀ s1, Q .ret s1 → Q' .ret s1) → wC fs out c32_9 s Q') : wC fs out c32_8 s Q := wC_loopQ I n h0 step
def c32_7 : ACode := .block 0 c32_8
theorem s32_7 (h : wC fs out c32_8 s fun e s1 => Q (if e = .exit 0 then .normal else e) s1) : wC fs out c32_7 s Q := wC_block h
def c32_5 : ACode := .seq c32_6 c32_7
theorem s32_5 (h : wS fs out s.h.nx o32_6 s.t ⟨s.h.o, s.h.nx + 3⟩ fun s1 => wC fs out c32_7 s1 Q) : wC fs out c32_5 s Q := wC_seq (s32_6 h)
def o32_20 : List (Nat × AOper) := (0, ⟨some 9, .mov (.k (.v (.one .nils))), none⟩) ::
   []
theorem h32_20 : wS fs out b o32_20 t h R = (wV fs out (b + 0) noT h (.mov (.k (.v (.one .nils)))) fun x9_0 h => R ⟨(upd t 9 x9_0), h⟩) := by kernel_rfl
def c32_20 : ACode := .region (o32_20.map (·.2)) [0] []
theorem s32_20 (h : wS fs out s.h.nx o32_20 s.t ⟨s.h.o, s.h.nx + 1⟩ (Q .normal)) : wC fs out c32_20 s Q := wC_region rfl rfl h
def o32_23 : List (Nat × AOper) := (0, ⟨some 31, .mov (.t 6), none⟩) ::
   (1, ⟨some 32, .len (.t 31), none⟩) ::
   (2, ⟨some 33, .mov (.k (.v (.one (.int .i64 0)))), none⟩) ::
   []
theorem h32_23 : wS fs out b o32_23 t h R = (wV fs out (b + 0) noT h (.mov (.k (t 6))) fun x31_0 h => wV fs out (b + 1) noT h (.len (.k x31_0)) fun x32_1 h => wV fs out (b + 2) noT h (.mov (.k (.v (.one (.int .i64 0))))) fun x33_2 h => R ⟨(upd (upd (upd t 31 x31_0) 32 x32_1) 33 x33_2), h⟩) := by kernel_rfl
def c32_23 : ACode := .region (o32_23.map (·.2)) [0, 1, 2] []
theorem s32_23 (h : wS fs out s.h.nx o32_23 s.t ⟨s.h.o, s.h.nx + 3⟩ (Q .normal)) : wC fs out c32_23 s Q := wC_region rfl rfl h
def o32_27 : List (Nat × AOper) := (0, ⟨some 34, .bin .lss (.t 33) (.t 32), none⟩) ::
   []
theorem h32_27 : wS fs out b o32_27 t h R = (wV fs out (b + 0) noT h (.bin .lss (.k (t 33)) (.k (t 32))) fun x34_0 h => R ⟨(upd t 34 x34_0), h⟩) := by kernel_rfl
def c32_27 : ACode := .region (o32_27.map (·.2)) [0] []
theorem s32_27 (h : wS fs out s.h.nx o32_27 s.t ⟨s.h.o, s.h.nx + 1⟩ (Q .normal)) : wC fs out c32_27 s Q := wC_region rfl rfl h
def c32_29 : ACode := .cond (.t 34) .skip (.exit 2) [0, 1, 6, 9, 31, 32, 33]
theorem s32_29 (h : onC (s.t 34) (Q .normal (keepOnly [0, 1, 6, 9, 31, 32, 33] s)) (Q (.exit 2) (keepOnly [0, 1, 6, 9, 31, 32, 33] s))) : wC fs out c32_29 s Q := wC_condC (by first | exact h | (simp only [wC_skip, wC_exit, wC_ret]; exact h))
def o32_33 : List (Nat × AOper) := (0, ⟨some 35, .mov (.t 33), none⟩) ::
   (1, ⟨some 36, .iadr 1 (.t 31) (.t 33), none⟩) ::
   (2, ⟨some 37, .load none (.t 36), none⟩) ::
   (3, ⟨some 10, .mov (.t 35), none⟩) ::
   (4, ⟨some 11, .mov (.t 37), none⟩) ::
   []
theorem h32_33 : wS fs out b o32_33 t h R = (wV fs out (b + 0) noT h (.mov (.k (t 33))) fun x35_0 h => wV fs out (b + 1) noT h (.iadr 1 (.k (t 31)) (.k (t 33))) fun x36_1 h => wV fs out (b + 2) noT h (.load none (.k x36_1)) fun x37_2 h => wV fs out (b + 3) noT h (.mov (.k x35_0)) fun x10_3 h => wV fs out (b + 4) noT h (.mov (.k x37_2)) fun x11_4 h => R ⟨(upd (upd (upd (upd (upd t 35 x35_0) 36 x36_1) 37 x37_2) 10 x10_3) 11 x11_4), h⟩) := by kernel_rfl
def c32_33 : ACode := .region (o32_33.map (·.2)) [0, 1, 2, 3, 4] []
theorem s32_33 (h : wS fs out s.h.nx o32_33 s.t ⟨s.h.o, s.h.nx + 5⟩ (Q .normal)) : wC fs out c32_33 s Q := wC_region rfl rfl h
def o32_35 : List (Nat × AOper) := (0, ⟨some 38, .mov (.t 11), none⟩) ::
   (1, ⟨some 39, .bin .eql (.t 38) (.k (.v (.one (.int .i64 0)))), none⟩) ::
   []
theorem h32_35 : wS fs out b o32_35 t h R = (wV fs out (b + 0) noT h (.mov (.k (t 11))) fun x38_0 h => wV fs out (b + 1) noT h (.bin .eql (.k x38_0) (.k (.v (.one (.int .i64 0))))) fun x39_1 h => R ⟨(upd (upd t 38 x38_0) 39 x39_1), h⟩) := by kernel_rfl
def c32_35 : ACode := .region (o32_35.map (·.2)) [0, 1] []
theorem s32_35 (h : wS fs out s.h.nx o32_35 s.t ⟨s.h.o, s.h.nx + 2⟩ (Q .normal)) : wC fs out c32_35 s Q := wC_region rfl rfl h
def o32_37_1 : List (Nat × AOper) := (4, ⟨some 9, .mov (.t 43), none⟩) ::
   []
theorem h32_37_1 : wS fs out b o32_37_1 t h R = (wV fs out (b + 4) noT h (.mov (.k (t 43))) fun x9_0 h => R ⟨(upd t 9 x9_0), h⟩) := by kernel_rfl
def o32_37 : List (Nat × AOper) := (0, ⟨some 40, .mov (.t 9), none⟩) ::
   (1, ⟨some 41, .mov (.t 10), none⟩) ::
   (2, ⟨some 42, .bsl 3 1 1 [(.int .i64 0)] [(0, 1, (.t 41))], none⟩) ::
   (3, ⟨some 43, .app 3 1 8 (.t 40) (.t 42), none⟩) ::
   o32_37_1
theorem h32_37 : wS fs out b o32_37 t h R = (wV fs out (b + 0) noT h (.mov (.k (t 9))) fun x40_0 h => wV fs out (b + 1) noT h (.mov (.k (t 10))) fun x41_1 h => wV fs out (b + 2) noT h (.bsl 3 1 1 [(.int .i64 0)] [(0, 1, (.k x41_1))]) fun x42_2 h => wV fs out (b + 3) noT h (.app 3 1 8 (.k x40_0) (.k x42_2)) fun x43_3 h => wS fs out b o32_37_1 (upd (upd (upd (upd t 40 x40_0) 41 x41_1) 42 x42_2) 43 x43_3) h R) := by kernel_rfl
def c32_37 : ACode := .region (o32_37.map (·.2)) [0, 1, 2, 3, 4] []
theorem s32_37 (h : wS fs out s.h.nx o32_37 s.t ⟨s.h.o, s.h.nx + 5⟩ (Q .normal)) : wC fs out c32_37 s Q := wC_region rfl rfl h
def c32_36 : ACode := .cond (.t 39) c32_37 .skip [0, 1, 6, 9, 31, 32, 33]
theorem s32_36 (h : onC (s.t 39) (wC fs out c32_37 s fun e s1 => Q e (keepOnly [0, 1, 6, 9, 31, 32, 33] s1)) (Q .normal (keepOnly [0, 1, 6, 9, 31, 32, 33] s))) : wC fs out c32_36 s Q := wC_condC (by first | exact h | (simp only [wC_skip, wC_exit, wC_ret]; exact h))
def c32_34 : ACode := .seq c32_35 c32_36
theorem s32_34 (h : wS fs out s.h.nx o32_35 s.t ⟨s.h.o, s.h.nx + 2⟩ fun s1 => wC fs out c32_36 s1 Q) : wC fs out c32_34 s Q := wC_seq (s32_35 h)
def c32_32 : ACode := .seq c32_33 c32_34
theorem s32_32 (h : wS fs out s.h.nx o32_33 s.t ⟨s.h.o, s.h.nx + 5⟩ fun s1 => wC fs out c32_34 s1 Q) : wC fs out c32_32 s Q := wC_seq (s32_33 h)
def c32_31 : ACode := .block 3 c32_32
theorem s32_31 (h : wC fs out c32_32 s fun e s1 => Q (if e = .exit 3 then .normal else e) s1) : wC fs out c32_31 s Q := wC_block h
def o32_38 : List (Nat × AOper) := (0, ⟨some 44, .bin .add (.t 33) (.k (.v (.one (.int .i64 1)))), none⟩) ::
   (1, ⟨some 33, .mov (.t 44), none⟩) ::
   []
theorem h32_38 : wS fs out b o32_38 t h R = (wV fs out (b + 0) noT h (.bin .add (.k (t 33)) (.k (.v (.one (.int .i64 1))))) fun x44_0 h => wV fs out (b + 1) noT h (.mov (.k x44_0)) fun x33_1 h => R ⟨(upd (upd t 44 x44_0) 33 x33_1), h⟩) := by kernel_rfl
def c32_38 : ACode := .region (o32_38.map (·.2)) [0, 1] []
theorem s32_38 (h : wS fs out s.h.nx o32_38 s.t ⟨s.h.o, s.h.nx + 2⟩ (Q .normal)) : wC fs out c32_38 s Q := wC_region rfl rfl h
def c32_30 : ACode := .seq c32_31 c32_38
theorem s32_30 (h : wC fs out c32_31 s fun e s1 => match e with | .normal => wC fs out c32_38 s1 Q | e => Q e s1) : wC fs out c32_30 s Q := wC_seq h
def c32_28 : ACode := .seq c32_29 c32_30
theorem s32_28 (h : onC (s.t 34) (wC fs out c32_30 (keepOnly [0, 1, 6, 9, 31, 32, 33] s) Q) (Q (.exit 2) (keepOnly [0, 1, 6, 9, 31, 32, 33] s))) : wC fs out c32_28 s Q := wC_seq (s32_29 h)
def c32_26 : ACode := .seq c32_27 c32_28
theorem s32_26 (h : wS fs out s.h.nx o32_27 s.t ⟨s.h.o, s.h.nx + 1⟩ fun s1 => wC fs out c32_28 s1 Q) : wC fs out c32_26 s Q := wC_seq (s32_27 h)
def c32_25 : ACode := .loop [0, 1, 6, 9, 31, 32, 33] c32_26
theorem s32_25 (I : Nat → St → Prop) (n : Nat) (h0 : I n (keepOnly [0, 1, 6, 9, 31, 32, 33] s)) (step : ∀ m s (Q' : AExit → St → Prop), I m s → (∀ m' s1, m' < m → I m' (keepOnly [0, 1, 6, 9, 31, 32, 33] s1) → Q' .normal s1) → (∀ i s1, Q (.exit i) s1 → Q' (.exit i) s1) → (∀ s1, Q .ret s1 → Q' .ret s1) → wC fs out c32_26 s Q') : wC fs out c32_25 s Q := wC_loopQ I n h0 step
def c32_24 : ACode := .block 2 c32_25
theorem s32_24 (h : wC fs out c32_25 s fun e s1 => Q (if e = .exit 2 then .normal else e) s1) : wC fs out c32_24 s Q := wC_block h
def c32_22 : ACode := .seq c32_23 c32_24
theorem s32_22 (h : wS fs out s.h.nx o32_23 s.t ⟨s.h.o, s.h.nx + 3⟩ fun s1 => wC fs out c32_24 s1 Q) : wC fs out c32_22 s Q := wC_seq (s32_23 h)
def o32_41 : List (Nat × AOper) := (0, ⟨some 12, .mov (.k (.v (.one (.int .i64 0)))), none⟩) ::
   []
theorem h32_41 : wS fs out b o32_41 t h R = (wV fs out (b + 0) noT h (.mov (.k (.v (.one (.int .i64 0))))) fun x12_0 h => R ⟨(upd t 12 x12_0), h⟩) := by kernel_rfl
def c32_41 : ACode := .region (o32_41.map (·.2)) [0] []
theorem s32_41 (h : wS fs out s.h.nx o32_41 s.t ⟨s.h.o, s.h.nx + 1⟩ (Q .normal)) : wC fs out c32_41 s Q := wC_region rfl rfl h
def o32_46 : List (Nat × AOper) := (0, ⟨some 45, .mov (.t 12), none⟩) ::
   (1, ⟨some 46, .mov (.t 9), none⟩) ::
   (2, ⟨some 47, .len (.t 46), none⟩) ::
   (3, ⟨some 48, .bin .lss (.t 45) (.t 47), none⟩) ::
   []
theorem h32_46 : wS fs out b o32_46 t h R = (wV fs out (b + 0) noT h (.mov (.k (t 12))) fun x45_0 h => wV fs out (b + 1) noT h (.mov (.k (t 9))) fun x46_1 h => wV fs out (b + 2) noT h (.len (.k x46_1)) fun x47_2 h => wV fs out (b + 3) noT h (.bin .lss (.k x45_0) (.k x47_2)) fun x48_3 h => R ⟨(upd (upd (upd (upd t 45 x45_0) 46 x46_1) 47 x47_2) 48 x48_3), h⟩) := by kernel_rfl
def c32_46 : ACode := .region (o32_46.map (·.2)) [0, 1, 2, 3] []
theorem s32_46 (h : wS fs out s.h.nx o32_46 s.t ⟨s.h.o, s.h.nx + 4⟩ (Q .normal)) : wC fs out c32_46 s Q := wC_region rfl rfl h
def c32_47 : ACode := .cond (.t 48) .skip (.exit 4) [0, 1, 6, 9, 12]
theorem s32_47 (h : onC (s.t 48) (Q .normal (keepOnly [0, 1, 6, 9, 12] s)) (Q (.exit 4) (keepOnly [0, 1, 6, 9, 12] s))) : wC fs out c32_47 s Q := wC_condC (by first | exact h | (simp only [wC_skip, wC_exit, wC_ret]; exact h))
def c32_45 : ACode := .seq c32_46 c32_47
theorem s32_45 (h : wS fs out s.h.nx o32_46 s.t ⟨s.h.o, s.h.nx + 4⟩ fun s1 => wC fs out c32_47 s1 Q) : wC fs out c32_45 s Q := wC_seq (s32_46 h)
def o32_51 : List (Nat × AOper) := (0, ⟨some 51, .mov (.t 1), none⟩) ::
   (1, ⟨some 52, .len (.t 51), none⟩) ::
   (2, ⟨some 53, .mov (.k (.v (.one (.int .i64 0)))), none⟩) ::
   []
theorem h32_51 : wS fs out b o32_51 t h R = (wV fs out (b + 0) noT h (.mov (.k (t 1))) fun x51_0 h => wV fs out (b + 1) noT h (.len (.k x51_0)) fun x52_1 h => wV fs out (b + 2) noT h (.mov (.k (.v (.one (.int .i64 0))))) fun x53_2 h => R ⟨(upd (upd (upd t 51 x51_0) 52 x52_1) 53 x53_2), h⟩) := by kernel_rfl
def c32_51 : ACode := .region (o32_51.map (·.2)) [0, 1, 2] []
theorem s32_51 (h : wS fs out s.h.nx o32_51 s.t ⟨s.h.o, s.h.nx + 3⟩ (Q .normal)) : wC fs out c32_51 s Q := wC_region rfl rfl h
def o32_55 : List (Nat × AOper) := (0, ⟨some 54, .bin .lss (.t 53) (.t 52), none⟩) ::
   []
theorem h32_55 : wS fs out b o32_55 t h R = (wV fs out (b + 0) noT h (.bin .lss (.k (t 53)) (.k (t 52))) fun x54_0 h => R ⟨(upd t 54 x54_0), h⟩) := by kernel_rfl
def c32_55 : ACode := .region (o32_55.map (·.2)) [0] []
theorem s32_55 (h : wS fs out s.h.nx o32_55 s.t ⟨s.h.o, s.h.nx + 1⟩ (Q .normal)) : wC fs out c32_55 s Q := wC_region rfl rfl h
def c32_57 : ACode := .cond (.t 54) .skip (.exit 6) [0, 1, 6, 9, 12, 51, 52, 53]
theorem s32_57 (h : onC (s.t 54) (Q .normal (keepOnly [0, 1, 6, 9, 12, 51, 52, 53] s)) (Q (.exit 6) (keepOnly [0, 1, 6, 9, 12, 51, 52, 53] s))) : wC fs out c32_57 s Q := wC_condC (by first | exact h | (simp only [wC_skip, wC_exit, wC_ret]; exact h))
def o32_61 : List (Nat × AOper) := (0, ⟨some 55, .iadr 4 (.t 51) (.t 53), none⟩) ::
   (1, ⟨some 56, .load (some 4) (.t 55), none⟩) ::
   (2, ⟨some 14, .new 35 [(.int .i64 0), (.int .i64 0), (.int .i64 0), (.int .i64 0)], none⟩) ::
   (3, ⟨none, .store 4 (.t 14) (.t 56), none⟩) ::
   []
theorem h32_61 : wS fs out b o32_61 t h R = (wV fs out (b + 0) noT h (.iadr 4 (.k (t 51)) (.k (t 53))) fun x55_0 h => wV fs out (b + 1) noT h (.load (some 4) (.k x55_0)) fun x56_1 h => wV fs out (b + 2) noT h (.new 35 [(.int .i64 0), (.int .i64 0), (.int .i64 0), (.int .i64 0)]) fun x14_2 h => wV fs out (b + 3) noT h (.store 4 (.k x14_2) (.k x56_1)) fun _ h => R ⟨(upd (upd (upd t 55 x55_0) 56 x56_1) 14 x14_2), h⟩) := by kernel_rfl
def c32_61 : ACode := .region (o32_61.map (·.2)) [0, 1, 2, 3] []
theorem s32_61 (h : wS fs out s.h.nx o32_61 s.t ⟨s.h.o, s.h.nx + 4⟩ (Q .normal)) : wC fs out c32_61 s Q := wC_region rfl rfl h
def o32_64 : List (Nat × AOper) := (0, ⟨some 57, .fadr 0 (.t 14), none⟩) ::
   (1, ⟨some 58, .load none (.t 57), none⟩) ::
   (2, ⟨some 59, .mov (.t 9), none⟩) ::
   (3, ⟨some 60, .mov (.t 12), none⟩) ::
   (4, ⟨some 61, .iadr 1 (.t 59) (.t 60), none⟩) ::
   (5, ⟨some 62, .load none (.t 61), none⟩) ::
   (6, ⟨some 63, .bin .neq (.t 58) (.t 62), none⟩) ::
   []
theorem h32_64 : wS fs out b o32_64 t h R = (wV fs out (b + 0) noT h (.fadr 0 (.k (t 14))) fun x57_0 h => wV fs out (b + 1) noT h (.load none (.k x57_0)) fun x58_1 h => wV fs out (b + 2) noT h (.mov (.k (t 9))) fun x59_2 h => wV fs out (b + 3) noT h (.mov (.k (t 12))) fun x60_3 h => wV fs out (b + 4) noT h (.iadr 1 (.k x59_2) (.k x60_3)) fun x61_4 h => wV fs out (b + 5) noT h (.load none (.k x61_4)) fun x62_5 h => wV fs out (b + 6) noT h (.bin .neq (.k x58_1) (.k x62_5)) fun x63_6 h => R ⟨(upd (upd (upd (upd (upd (upd (upd t 57 x57_0) 58 x58_1) 59 x59_2) 60 x60_3) 61 x61_4) 62 x62_5) 63 x63_6), h⟩) := by kernel_rfl
def c32_64 : ACode := .region (o32_64.map (·.2)) [0, 1, 2, 3, 4, 5, 6] []
theorem s32_64 (h : wS fs out s.h.nx o32_64 s.t ⟨s.h.o, s.h.nx + 7⟩ (Q .normal)) : wC fs out c32_64 s Q := wC_region rfl rfl h
def c32_65 : ACode := .cond (.t 63) (.exit 7) .skip [0, 1, 6, 9, 12, 14, 51, 52, 53]
theorem s32_65 (h : onC (s.t 63) (Q (.exit 7) (keepOnly [0, 1, 6, 9, 12, 14, 51, 52, 53] s)) (Q .normal (keepOnly [0, 1, 6, 9, 12, 14, 51, 52, 53] s))) : wC fs out c32_65 s Q := wC_condC (by first | exact h | (simp only [wC_skip, wC_exit, wC_ret]; exact h))
def c32_63 : ACode := .seq c32_64 c32_65
theorem s32_63 (h : wS fs out s.h.nx o32_64 s.t ⟨s.h.o, s.h.nx + 7⟩ fun s1 => wC fs out c32_65 s1 Q) : wC fs out c32_63 s Q := wC_seq (s32_64 h)
def o32_67 : List (Nat × AOper) := (0, ⟨some 64, .mov (.t 6), none⟩) ::
   (1, ⟨some 65, .fadr 1 (.t 14), none⟩) ::
   (2, ⟨some 66, .load none (.t 65), none⟩) ::
   (3, ⟨some 67, .iadr 1 (.t 64) (.t 66), none⟩) ::
   (4, ⟨some 68, .load none (.t 67), none⟩) ::
   (5, ⟨some 69, .bin .sub (.t 68) (.k (.v (.one (.int .i64 1)))), none⟩) ::
   (6, ⟨some 70, .iadr 1 (.t 64) (.t 66), none⟩) ::
   (7, ⟨none, .store 1 (.t 70) (.t 69), none⟩) ::
   []
theorem h32_67 : wS fs out b o32_67 t h R = (wV fs out (b + 0) noT h (.mov (.k (t 6))) fun x64_0 h => wV fs out (b + 1) noT h (.fadr 1 (.k (t 14))) fun x65_1 h => wV fs out (b + 2) noT h (.load none (.k x65_1)) fun x66_2 h => wV fs out (b + 3) noT h (.iadr 1 (.k x64_0) (.k x66_2)) fun x67_3 h => wV fs out (b + 4) noT h (.load none (.k x67_3)) fun x68_4 h => wV fs out (b + 5) noT h (.bin .sub (.k x68_4) (.k (.v (.one (.int .i64 1))))) fun x69_5 h => wV fs out (b + 6) noT h (.iadr 1 (.k x64_0) (.k x66_2)) fun x70_6 h => wV fs out (b + 7) noT h (.store 1 (.k x70_6) (.k x69_5)) fun _ h => R ⟨(upd (upd (upd (upd (upd (upd (upd t 64 x64_0) 65 x65_1) 66 x66_2) 67 x67_3) 68 x68_4) 69 x69_5) 70 x70_6), h⟩) := by kernel_rfl
def c32_67 : ACode := .region (o32_67.map (·.2)) [0, 1, 2, 3, 4, 5, 6, 7] []
theorem s32_67 (h : wS fs out s.h.nx o32_67 s.t ⟨s.h.o, s.h.nx + 8⟩ (Q .normal)) : wC fs out c32_67 s Q := wC_region rfl rfl h
def o32_69 : List (Nat × AOper) := (0, ⟨some 71, .mov (.t 6), none⟩) ::
   (1, ⟨some 72, .fadr 1 (.t 14), none⟩) ::
   (2, ⟨some 73, .load none (.t 72), none⟩) ::
   (3, ⟨some 74, .iadr 1 (.t 71) (.t 73), none⟩) ::
   (4, ⟨some 75, .load none (.t 74), none⟩) ::
   (5, ⟨some 76, .bin .eql (.t 75) (.k (.v (.one (.int .i64 0)))), none⟩) ::
   []
theorem h32_69 : wS fs out b o32_69 t h R = (wV fs out (b + 0) noT h (.mov (.k (t 6))) fun x71_0 h => wV fs out (b + 1) noT h (.fadr 1 (.k (t 14))) fun x72_1 h => wV fs out (b + 2) noT h (.load none (.k x72_1)) fun x73_2 h => wV fs out (b + 3) noT h (.iadr 1 (.k x71_0) (.k x73_2)) fun x74_3 h => wV fs out (b + 4) noT h (.load none (.k x74_3)) fun x75_4 h => wV fs out (b + 5) noT h (.bin .eql (.k x75_4) (.k (.v (.one (.int .i64 0))))) fun x76_5 h => R ⟨(upd (upd (upd (upd (upd (upd t 71 x71_0) 72 x72_1) 73 x73_2) 74 x74_3) 75 x75_4) 76 x76_5), h⟩) := by kernel_rfl
def c32_69 : ACode := .region (o32_69.map (·.2)) [0, 1, 2, 3, 4, 5] []
theorem s32_69 (h : wS fs out s.h.nx o32_69 s.t ⟨s.h.o, s.h.nx + 6⟩ (Q .normal)) : wC fs out c32_69 s Q := wC_region rfl rfl h
def o32_71_1 : List (Nat × AOper) := (5, ⟨some 9, .mov (.t 81), none⟩) ::
   []
theorem h32_71_1 : wS fs out b o32_71_1 t h R = (wV fs out (b + 5) noT h (.mov (.k (t 81))) fun x9_0 h => R ⟨(upd t 9 x9_0), h⟩) := by kernel_rfl
def o32_71 : List (Nat × AOper) := (0, ⟨some 77, .mov (.t 9), none⟩) ::
   (1, ⟨some 78, .fadr 1 (.t 14), none⟩) ::
   (2, ⟨some 79, .load none (.t 78), none⟩) ::
   (3, ⟨some 80, .bsl 3 1 1 [(.int .i64 0)] [(0, 1, (.t 79))], none⟩) ::
   (4, ⟨some 81, .app 3 1 8 (.t 77) (.t 80), none⟩) ::
   o32_71_1
theorem h32_71 : wS fs out b o32_71 t h R = (wV fs out (b + 0) noT h (.mov (.k (t 9))) fun x77_0 h => wV fs out (b + 1) noT h (.fadr 1 (.k (t 14))) fun x78_1 h => wV fs out (b + 2) noT h (.load none (.k x78_1)) fun x79_2 h => wV fs out (b + 3) noT h (.bsl 3 1 1 [(.int .i64 0)] [(0, 1, (.k x79_2))]) fun x80_3 h => wV fs out (b + 4) noT h (.app 3 1 8 (.k x77_0) (.k x80_3)) fun x81_4 h => wS fs out b o32_71_1 (upd (upd (upd (upd (upd t 77 x77_0) 78 x78_1) 79 x79_2) 80 x80_3) 81 x81_4) h R) := by kernel_rfl
def c32_71 : ACode := .region (o32_71.map (·.2)) [0, 1, 2, 3, 4, 5] []
theorem s32_71 (h : wS fs out s.h.nx o32_71 s.t ⟨s.h.o, s.h.nx + 6⟩ (Q .normal)) : wC fs out c32_71 s Q := wC_region rfl rfl h
def c32_70 : ACode := .cond (.t 76) c32_71 .skip [0, 1, 6, 9, 12, 51, 52, 53]
theorem s32_70 (h : onC (s.t 76) (wC fs out c32_71 s fun e s1 => Q e (keepOnly [0, 1, 6, 9, 12, 51, 52, 53] s1)) (Q .normal (keepOnly [0, 1, 6, 9, 12, 51, 52, 53] s))) : wC fs out c32_70 s Q := wC_condC (by first | exact h | (simp only [wC_skip, wC_exit, wC_ret]; exact h))
def c32_68 : ACode := .seq c32_69 c32_70
theorem s32_68 (h : wS fs out s.h.nx o32_69 s.t ⟨s.h.o, s.h.nx + 6⟩ fun s1 => wC fs out c32_70 s1 Q) : wC fs out c32_68 s Q := wC_seq (s32_69 h)
def c32_66 : ACode := .seq c32_67 c32_68
theorem s32_66 (h : wS fs out s.h.nx o32_67 s.t ⟨s.h.o, s.h.nx + 8⟩ fun s1 => wC fs out c32_68 s1 Q) : wC fs out c32_66 s Q := wC_seq (s32_67 h)
def c32_62 : ACode := .seq c32_63 c32_66
theorem s32_62 (h : wC fs out c32_63 s fun e s1 => match e with | .normal => wC fs out c32_66 s1 Q | e => Q e s1) : wC fs out c32_62 s Q := wC_seq h
def c32_60 : ACode := .seq c32_61 c32_62
theorem s32_60 (h : wS fs out s.h.nx o32_61 s.t ⟨s.h.o, s.h.nx + 4⟩ fun s1 => wC fs out c32_62 s1 Q) : wC fs out c32_60 s Q := wC_seq (s32_61 h)
def c32_59 : ACode := .block 7 c32_60
theorem s32_59 (h : wC fs out c32_60 s fun e s1 => Q (if e = .exit 7 then .normal else e) s1) : wC fs out c32_59 s Q := wC_block h
def o32_72 : List (Nat × AOper) := (0, ⟨some 82, .bin .add (.t 53) (.k (.v (.one (.int .i64 1)))), none⟩) ::
   (1, ⟨some 53, .mov (.t 82), none⟩) ::
   []
theorem h32_72 : wS fs out b o32_72 t h R = (wV fs out (b + 0) noT h (.bin .add (.k (t 53)) (.k (.v (.one (.int .i64 1))))) fun x82_0 h => wV fs out (b + 1) noT h (.mov (.k x82_0)) fun x53_1 h => R ⟨(upd (upd t 82 x82_0) 53 x53_1), h⟩) := by kernel_rfl
def c32_72 : ACode := .region (o32_72.map (·.2)) [0, 1] []
theorem s32_72 (h : wS fs out s.h.nx o32_72 s.t ⟨s.h.o, s.h.nx + 2⟩ (Q .normal)) : wC fs out c32_72 s Q := wC_region rfl rfl h
def c32_58 : ACode := .seq c32_59 c32_72
theorem s32_58 (h : wC fs out c32_59 s fun e s1 => match e with | .normal => wC fs out c32_72 s1 Q | e => Q e s1) : wC fs out c32_58 s Q := wC_seq h
def c32_56 : ACode := .seq c32_57 c32_58
theorem s32_56 (h : onC (s.t 54) (wC fs out c32_58 (keepOnly [0, 1, 6, 9, 12, 51, 52, 53] s) Q) (Q (.exit 6) (keepOnly [0, 1, 6, 9, 12, 51, 52, 53] s))) : wC fs out c32_56 s Q := wC_seq (s32_57 h)
def c32_54 : ACode := .seq c32_55 c32_56
theorem s32_54 (h : wS fs out s.h.nx o32_55 s.t ⟨s.h.o, s.h.nx + 1⟩ fun s1 => wC fs out c32_56 s1 Q) : wC fs out c32_54 s Q := wC_seq (s32_55 h)
def c32_53 : ACode := .loop [0, 1, 6, 9, 12, 51, 52, 53] c32_54
theorem s32_53 (I : Nat → St → Prop) (n : Nat) (h0 : I n (keepOnly [0, 1, 6, 9, 12, 51, 52, 53] s)) (step : ∀ m s (Q' : AExit → St → Prop), I m s → (∀ m' s1, m' < m → I m' (keepOnly [0, 1, 6, 9, 12, 51, 52, 53] s1) → Q' .normal s1) → (∀ i s1, Q (.exit i) s1 → Q' (.exit i) s1) → (∀ s1, Q .ret s1 → Q' .ret s1) → wC fs out c32_54 s Q') : wC fs out c32_53 s Q := wC_loopQ I n h0 step
def c32_52 : ACode := .block 6 c32_53
theorem s32_52 (h : wC fs out c32_53 s fun e s1 => Q (if e = .exit 6 then .normal else e) s1) : wC fs out c32_52 s Q := wC_block h
def c32_50 : ACode := .seq c32_51 c32_52
theorem s32_50 (h : wS fs out s.h.nx o32_51 s.t ⟨s.h.o, s.h.nx + 3⟩ fun s1 => wC fs out c32_52 s1 Q) : wC fs out c32_50 s Q := wC_seq (s32_51 h)
def c32_49 : ACode := .block 5 c32_50
theorem s32_49 (h : wC fs out c32_50 s fun e s1 => Q (if e = .exit 5 then .normal else e) s1) : wC fs out c32_49 s Q := wC_block h
def o32_73 : List (Nat × AOper) := (0, ⟨some 49, .mov (.t 12), none⟩) ::
   (1, ⟨some 50, .bin .add (.t 49) (.k (.v (.one (.int .i64 1)))), none⟩) ::
   (2, ⟨some 12, .mov (.t 50), none⟩) ::
   []
theorem h32_73 : wS fs out b o32_73 t h R = (wV fs out (b + 0) noT h (.mov (.k (t 12))) fun x49_0 h => wV fs out (b + 1) noT h (.bin .add (.k x49_0) (.k (.v (.one (.int .i64 1))))) fun x50_1 h => wV fs out (b + 2) noT h (.mov (.k x50_1)) fun x12_2 h => R ⟨(upd (upd (upd t 49 x49_0) 50 x50_1) 12 x12_2), h⟩) := by kernel_rfl
def c32_73 : ACode := .region (o32_73.map (·.2)) [0, 1, 2] []
theorem s32_73 (h : wS fs out s.h.nx o32_73 s.t ⟨s.h.o, s.h.nx + 3⟩ (Q .normal)) : wC fs out c32_73 s Q := wC_region rfl rfl h
def c32_48 : ACode := .seq c32_49 c32_73
theorem s32_48 (h : wC fs out c32_49 s fun e s1 => match e with | .normal => wC fs out c32_73 s1 Q | e => Q e s1) : wC fs out c32_48 s Q := wC_seq h
def c32_44 : ACode := .seq c32_45 c32_48
theorem s32_44 (h : wC fs out c32_45 s fun e s1 => match e with | .normal => wC fs out c32_48 s1 Q | e => Q e s1) : wC fs out c32_44 s Q := wC_seq h
def c32_43 : ACode := .loop [0, 1, 6, 9, 12] c32_44
theorem s32_43 (I : Nat → St → Prop) (n : Nat) (h0 : I n (keepOnly [0, 1, 6, 9, 12] s)) (step : ∀ m s (Q' : AExit → St → Prop), I m s → (∀ m' s1, m' < m → I m' (keepOnly [0, 1, 6, 9, 12] s1) → Q' .normal s1) → (∀ i s1, Q (.exit i) s1 → Q' (.exit i) s1) → (∀ s1, Q .ret s1 → Q' .ret s1) → wC fs out c32_44 s Q') : wC fs out c32_43 s Q := wC_loopQ I n h0 step
def c32_42 : ACode := .block 4 c32_43
theorem s32_42 (h : wC fs out c32_43 s fun e s1 => Q (if e = .exit 4 then .normal else e) s1) : wC fs out c32_42 s Q := wC_block h
def c32_40 : ACode := .seq c32_41 c32_42
theorem s32_40 (h : wS fs out s.h.nx o32_41 s.t ⟨s.h.o, s.h.nx + 1⟩ fun s1 => wC fs out c32_42 s1 Q) : wC fs out c32_40 s Q := wC_seq (s32_41 h)
def o32_75 : List (Nat × AOper) := (0, ⟨some 83, .mov (.t 9), none⟩) ::
   (1, ⟨some 84, .mov (.t 9), none⟩) ::
   (2, ⟨some 85, .len (.t 84), none⟩) ::
   (3, ⟨some 86, .mov (.t 0), none⟩) ::
   (4, ⟨some 87, .bin .eql (.t 85) (.t 86), none⟩) ::
   (5, ⟨some 4, .mov (.t 83), none⟩) ::
   (6, ⟨some 5, .mov (.t 87), none⟩) ::
   []
theorem h32_75 : wS fs out b o32_75 t h R = (wV fs out (b + 0) noT h (.mov (.k (t 9))) fun x83_0 h => wV fs out (b + 1) noT h (.mov (.k (t 9))) fun x84_1 h => wV fs out (b + 2) noT h (.len (.k x84_1)) fun x85_2 h => wV fs out (b + 3) noT h (.mov (.k (t 0))) fun x86_3 h => wV fs out (b + 4) noT h (.bin .eql (.k x85_2) (.k x86_3)) fun x87_4 h => wV fs out (b + 5) noT h (.mov (.k x83_0)) fun x4_5 h => wV fs out (b + 6) noT h (.mov (.k x87_4)) fun x5_6 h => R ⟨(upd (upd (upd (upd (upd (upd (upd t 83 x83_0) 84 x84_1) 85 x85_2) 86 x86_3) 87 x87_4) 4 x4_5) 5 x5_6), h⟩) := by kernel_rfl
def c32_75 : ACode := .region (o32_75.map (·.2)) [0, 1, 2, 3, 4, 5, 6] []
theorem s32_75 (h : wS fs out s.h.nx o32_75 s.t ⟨s.h.o, s.h.nx + 7⟩ (Q .normal)) : wC fs out c32_75 s Q := wC_region rfl rfl h
def c32_74 : ACode := .seq c32_75 .ret
theorem s32_74 (h : wS fs out s.h.nx o32_75 s.t ⟨s.h.o, s.h.nx + 7⟩ fun s1 => wC fs out .ret s1 Q) : wC fs out c32_74 s Q := wC_seq (s32_75 h)
def c32_39 : ACode := .seq c32_40 c32_74
theorem s32_39 (h : wC fs out c32_40 s fun e s1 => match e with | .normal => wC fs out c32_74 s1 Q | e => Q e s1) : wC fs out c32_39 s Q := wC_seq h
def c32_21 : ACode := .seq c32_22 c32_39
theorem s32_21 (h : wC fs out c32_22 s fun e s1 => match e with | .normal => wC fs out c32_39 s1 Q | e => Q e s1) : wC fs out c32_21 s Q := wC_seq h
def c32_19 : ACode := .seq c32_20 c32_21
theorem s32_19 (h : wS fs out s.h.nx o32_20 s.t ⟨s.h.o, s.h.nx + 1⟩ fun s1 => wC fs out c32_21 s1 Q) : wC fs out c32_19 s Q := wC_seq (s32_20 h)
def c32_4 : ACode := .seq c32_5 c32_19
theorem s32_4 (h : wC fs out c32_5 s fun e s1 => match e with | .normal => wC fs out c32_19 s1 Q | e => Q e s1) : wC fs out c32_4 s Q := wC_seq h
def c32_2 : ACode := .seq c32_3 c32_4
theorem s32_2 (h : wS fs out s.h.nx o32_3 s.t ⟨s.h.o, s.h.nx + 3⟩ fun s1 => wC fs out c32_4 s1 Q) : wC fs out c32_2 s Q := wC_seq (s32_3 h)
def c32_0 : ACode := .seq c32_1 c32_2
theorem s32_0 (h : wS fs out s.h.nx o32_1 s.t ⟨s.h.o, s.h.nx + 2⟩ fun s1 => wC fs out c32_2 s1 Q) : wC fs out c32_0 s Q := wC_seq (s32_1 h)
def a32 : AFunc := ⟨2, [4, 5], none, c32_0⟩
theorem t32 : tell Try.prog Try.f32 [([0, 1, 6, 17, 18, 19], [], []), ([0, 1, 6, 17, 18, 19], [], []), ([0, 1, 6, 9, 31, 32, 33], [], []), ([0, 1, 6, 9, 31, 32, 33], [], []), ([0, 1, 6, 9, 31, 32, 33], [], []), ([0, 1, 6, 9, 12], [], []), ([0, 1, 6, 9, 12], [], []), ([0, 1, 6, 9, 12, 51, 52, 53], [], []), ([0, 1, 6, 9, 12, 51, 52, 53], [], []), ([0, 1, 2, 3, 4, 5, 6], [], [0, 1, 0, 0, 12, 28, 63]), ([0, 1, 6, 9, 12, 14, 51, 52, 53], [], []), ([0, 1, 6, 9, 12, 51, 52, 53], [], [])] = some a32 := by kernel_rfl
theorem ok32 : FuncOk Try.prog 32 a32 := tell_ok Try.func32 t32

end Go.Proofs.Ythoicdnlcnppgaa.Fn
