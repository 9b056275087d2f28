/- Functions of the program, as the abstract machine's, and that they are. Conditions: none. -/
import Derived.Test.YthoicdnlcnppgaaAmCo
import Derived.Test.YthoicdnlcnppgaaAmEv
import Derived.Test.YthoicdnlcnppgaaProg
set_option linter.unusedVariables false
set_option linter.unusedSimpArgs false
namespace Go.Proofs.Ythoicdnlcnppgaa.Fn
open Go Go.Am
set_option maxRecDepth 100000
variable {fs : Nat → Option AFunc} {out : Rec} {s : St} {Q : AExit → St → Prop} {b : Nat} {t : Nat → T} {h : AH} {R : St → Prop}
/-- railplan/delay.Check -/
def o22_1 : List (Nat × AOper) := (0, ⟨some 6, .mov (.k (.v (.one (.bool false)))), none⟩) ::
   []
theorem h22_1 : wS fs out b o22_1 t h R = (wV fs out (b + 0) noT h (.mov (.k (.v (.one (.bool false))))) fun x6_0 h => R ⟨(upd t 6 x6_0), h⟩) := by kernel_rfl
def c22_1 : ACode := .region (o22_1.map (·.2)) [0] []
theorem s22_1 (h : wS fs out s.h.nx o22_1 s.t ⟨s.h.o, s.h.nx + 1⟩ (Q .normal)) : wC fs out c22_1 s Q := wC_region rfl rfl h
def o22_4_4 : List (Nat × AOper) := (12, ⟨some 28, .pick (.t 24) (.k (.v (.one (.bool true)))) (.t 27), none⟩) ::
   []
theorem h22_4_4 : wS fs out b o22_4_4 t h R = (wV fs out (b + 12) noT h (.pick (.k (t 24)) (.k (.v (.one (.bool true)))) (.k (t 27))) fun x28_0 h => R ⟨(upd t 28 x28_0), h⟩) := by kernel_rfl
def o22_4_3g : List (Nat × AOper) := (9, ⟨some 25, .mov (.t 2), none⟩) ::
   (10, ⟨some 26, .len (.t 25), none⟩) ::
   (11, ⟨some 27, .bin .gtr (.t 26) (.k (.v (.one (.int .i64 64)))), none⟩) ::
   []
theorem h22_4_3g : wS fs out b o22_4_3g t h R = (wV fs out (b + 9) noT h (.mov (.k (t 2))) fun x25_0 h => wV fs out (b + 10) noT h (.len (.k x25_0)) fun x26_1 h => wV fs out (b + 11) noT h (.bin .gtr (.k x26_1) (.k (.v (.one (.int .i64 64))))) fun x27_2 h => R ⟨(upd (upd (upd t 25 x25_0) 26 x26_1) 27 x27_2), h⟩) := by kernel_rfl
def o22_4_3 : List (Nat × AOper) := grp 24 false o22_4_3g o22_4_4
theorem w22_4_3 : wS fs out b o22_4_3 t h R = onG (t 24) false (wS fs out b o22_4_3g (upd t 24 (.v (.one (.bool false)))) h fun s => wS fs out b o22_4_4 s.t s.h R) (wS fs out b o22_4_4 (upd (upd (upd (upd t 24 (.v (.one (.bool true)))) 25 (.tup [])) 26 (.tup [])) 27 (.tup [])) h R) (wS fs out b o22_4_4 (upd (upd (upd t 25 (.tup [])) 26 (.tup [])) 27 (.tup [])) h R) := wS_grpE rfl
def o22_4_2 : List (Nat × AOper) := (7, ⟨some 23, .pick (.t 19) (.k (.v (.one (.bool true)))) (.t 22), none⟩) ::
   (8, ⟨some 24, .mov (.t 23), none⟩) ::
   o22_4_3
theorem h22_4_2 : wS fs out b o22_4_2 t h R = (wV fs out (b + 7) noT h (.pick (.k (t 19)) (.k (.v (.one (.bool true)))) (.k (t 22))) fun x23_0 h => wV fs out (b + 8) noT h (.mov (.k x23_0)) fun x24_1 h => wS fs out b o22_4_3 (upd (upd t 23 x23_0) 24 x24_1) h R) := by kernel_rfl
def o22_4_1g : List (Nat × AOper) := (4, ⟨some 20, .mov (.t 1), none⟩) ::
   (5, ⟨some 21, .len (.t 20), none⟩) ::
   (6, ⟨some 22, .bin .gtr (.t 21) (.k (.v (.one (.int .i64 200)))), none⟩) ::
   []
theorem h22_4_1g : wS fs out b o22_4_1g t h R = (wV fs out (b + 4) noT h (.mov (.k (t 1))) fun x20_0 h => wV fs out (b + 5) noT h (.len (.k x20_0)) fun x21_1 h => wV fs out (b + 6) noT h (.bin .gtr (.k x21_1) (.k (.v (.one (.int .i64 200))))) fun x22_2 h => R ⟨(upd (upd (upd t 20 x20_0) 21 x21_1) 22 x22_2), h⟩) := by kernel_rfl
def o22_4_1 : List (Nat × AOper) := grp 19 false o22_4_1g o22_4_2
theorem w22_4_1 : wS fs out b o22_4_1 t h R = onG (t 19) false (wS fs out b o22_4_1g (upd t 19 (.v (.one (.bool false)))) h fun s => wS fs out b o22_4_2 s.t s.h R) (wS fs out b o22_4_2 (upd (upd (upd (upd t 19 (.v (.one (.bool true)))) 20 (.tup [])) 21 (.tup [])) 22 (.tup [])) h R) (wS fs out b o22_4_2 (upd (upd (upd t 20 (.tup [])) 21 (.tup [])) 22 (.tup [])) h R) := wS_grpE rfl
def o22_4 : List (Nat × AOper) := (0, ⟨some 16, .mov (.t 0), none⟩) ::
   (1, ⟨some 17, .len (.t 16), none⟩) ::
   (2, ⟨some 18, .bin .gtr (.t 17) (.k (.v (.one (.int .i64 64)))), none⟩) ::
   (3, ⟨some 19, .mov (.t 18), none⟩) ::
   o22_4_1
theorem h22_4 : wS fs out b o22_4 t h R = (wV fs out (b + 0) noT h (.mov (.k (t 0))) fun x16_0 h => wV fs out (b + 1) noT h (.len (.k x16_0)) fun x17_1 h => wV fs out (b + 2) noT h (.bin .gtr (.k x17_1) (.k (.v (.one (.int .i64 64))))) fun x18_2 h => wV fs out (b + 3) noT h (.mov (.k x18_2)) fun x19_3 h => wS fs out b o22_4_1 (upd (upd (upd (upd t 16 x16_0) 17 x17_1) 18 x18_2) 19 x19_3) h R) := by kernel_rfl
def c22_4 : ACode := .region (o22_4.map (·.2)) [0, 1, 2, 3, 4, 5, 6, 7, 8, 9, 10, 11, 12] []
theorem s22_4 (h : wS fs out s.h.nx o22_4 s.t ⟨s.h.o, s.h.nx + 13⟩ (Q .normal)) : wC fs out c22_4 s Q := wC_region rfl rfl h
def o22_7 : List (Nat × AOper) := (0, ⟨some 6, .mov (.k (.v (.one (.bool false)))), none⟩) ::
   []
theorem h22_7 : wS fs out b o22_7 t h R = (wV fs out (b + 0) noT h (.mov (.k (.v (.one (.bool false))))) fun x6_0 h => R ⟨(upd t 6 x6_0), h⟩) := by kernel_rfl
def c22_7 : ACode := .region (o22_7.map (·.2)) [0] []
theorem s22_7 (h : wS fs out s.h.nx o22_7 s.t ⟨s.h.o, s.h.nx + 1⟩ (Q .normal)) : wC fs out c22_7 s Q := wC_region rfl rfl h
def c22_6 : ACode := .seq c22_7 .ret
theorem s22_6 (h : wS fs out s.h.nx o22_7 s.t ⟨s.h.o, s.h.nx + 1⟩ fun s1 => wC fs out .ret s1 Q) : wC fs out c22_6 s Q := wC_seq (s22_7 h)
def c22_5 : ACode := .cond (.t 28) c22_6 .skip [0, 1, 2, 6]
theorem s22_5 (h : onC (s.t 28) (wC fs out c22_6 s fun e s1 => Q e (keepOnly [0, 1, 2, 6] s1)) (Q .normal (keepOnly [0, 1, 2, 6] s))) : wC fs out c22_5 s Q := wC_condC (by first | exact h | (simp only [wC_skip, wC_exit, wC_ret]; exact h))
def c22_3 : ACode := .seq c22_4 c22_5
theorem s22_3 (h : wS fs out s.h.nx o22_4 s.t ⟨s.h.o, s.h.nx + 13⟩ fun s1 => wC fs out c22_5 s1 Q) : wC fs out c22_3 s Q := wC_seq (s22_4 h)
def o22_10 : List (Nat × AOper) := (0, ⟨some 29, .mov (.t 0), none⟩) ::
   (1, ⟨some 30, .len (.t 29), none⟩) ::
   (2, ⟨some 31, .mov (.k (.v (.one (.int .i64 0)))), none⟩) ::
   []
theorem h22_10 : wS fs out b o22_10 t h R = (wV fs out (b + 0) noT h (.mov (.k (t 0))) fun x29_0 h => wV fs out (b + 1) noT h (.len (.k x29_0)) fun x30_1 h => wV fs out (b + 2) noT h (.mov (.k (.v (.one (.int .i64 0))))) fun x31_2 h => R ⟨(upd (upd (upd t 29 x29_0) 30 x30_1) 31 x31_2), h⟩) := by kernel_rfl
def c22_10 : ACode := .region (o22_10.map (·.2)) [0, 1, 2] []
theorem s22_10 (h : wS fs out s.h.nx o22_10 s.t ⟨s.h.o, s.h.nx + 3⟩ (Q .normal)) : wC fs out c22_10 s Q := wC_region rfl rfl h
def o22_14 : List (Nat × AOper) := (0, ⟨some 32, .bin .lss (.t 31) (.t 30), none⟩) ::
   []
theorem h22_14 : wS fs out b o22_14 t h R = (wV fs out (b + 0) noT h (.bin .lss (.k (t 31)) (.k (t 30))) fun x32_0 h => R ⟨(upd t 32 x32_0), h⟩) := by kernel_rfl
def c22_14 : ACode := .region (o22_14.map (·.2)) [0] []
theorem s22_14 (h : wS fs out s.h.nx o22_14 s.t ⟨s.h.o, s.h.nx + 1⟩ (Q .normal)) : wC fs out c22_14 s Q := wC_region rfl rfl h
def c22_16 : ACode := .cond (.t 32) .skip (.exit 0) [0, 1, 2, 29, 30, 31]
theorem s22_16 (h : onC (s.t 32) (Q .normal (keepOnly [0, 1, 2, 29, 30, 31] s)) (Q (.exit 0) (keepOnly [0, 1, 2, 29, 30, 31] s))) : wC fs out c22_16 s Q := wC_condC (by first | exact h | (simp only [wC_skip, wC_exit, wC_ret]; exact h))
def o22_20 : List (Nat × AOper) := (0, ⟨some 33, .iadr 2 (.t 29) (.t 31), none⟩) ::
   (1, ⟨some 34, .load (some 2) (.t 33), none⟩) ::
   (2, ⟨some 8, .new 33 [(.int .i64 0), (.bool false)], none⟩) ::
   (3, ⟨none, .store 2 (.t 8) (.t 34), none⟩) ::
   []
theorem h22_20 : wS fs out b o22_20 t h R = (wV fs out (b + 0) noT h (.iadr 2 (.k (t 29)) (.k (t 31))) fun x33_0 h => wV fs out (b + 1) noT h (.load (some 2) (.k x33_0)) fun x34_1 h => wV fs out (b + 2) noT h (.new 33 [(.int .i64 0), (.bool false)]) fun x8_2 h => wV fs out (b + 3) noT h (.store 2 (.k x8_2) (.k x34_1)) fun _ h => R ⟨(upd (upd (upd t 33 x33_0) 34 x34_1) 8 x8_2), h⟩) := by kernel_rfl
def c22_20 : ACode := .region (o22_20.map (·.2)) [0, 1, 2, 3] []
theorem s22_20 (h : wS fs out s.h.nx o22_20 s.t ⟨s.h.o, s.h.nx + 4⟩ (Q .normal)) : wC fs out c22_20 s Q := wC_region rfl rfl h
def o22_22_1 : List (Nat × AOper) := (3, ⟨some 38, .not (.t 37), none⟩) ::
   []
theorem h22_22_1 : wS fs out b o22_22_1 t h R = (wV fs out (b + 3) noT h (.not (.k (t 37))) fun x38_0 h => R ⟨(upd t 38 x38_0), h⟩) := by kernel_rfl
def o22_22 : List (Nat × AOper) := (0, ⟨some 35, .fadr 0 (.t 8), none⟩) ::
   (1, ⟨some 36, .load none (.t 35), none⟩) ::
   (2, ⟨some 37, .call 31 [(.t 36)], none⟩) ::
   o22_22_1
theorem h22_22 : wS fs out b o22_22 t h R = (wV fs out (b + 0) noT h (.fadr 0 (.k (t 8))) fun x35_0 h => wV fs out (b + 1) noT h (.load none (.k x35_0)) fun x36_1 h => wV fs out (b + 2) noT h (.call 31 [(.k x36_1)]) fun x37_2 h => wS fs out b o22_22_1 (upd (upd (upd t 35 x35_0) 36 x36_1) 37 x37_2) h R) := by kernel_rfl
def c22_22 : ACode := .region (o22_22.map (·.2)) [0, 1, 2, 3] []
theorem s22_22 (h : wS fs out s.h.nx o22_22 s.t ⟨s.h.o, s.h.nx + 4⟩ (Q .normal)) : wC fs out c22_22 s Q := wC_region rfl rfl h
def o22_25 : List (Nat × AOper) := (0, ⟨some 6, .mov (.k (.v (.one (.bool false)))), none⟩) ::
   []
theorem h22_25 : wS fs out b o22_25 t h R = (wV fs out (b + 0) noT h (.mov (.k (.v (.one (.bool false))))) fun x6_0 h => R ⟨(upd t 6 x6_0), h⟩) := by kernel_rfl
def c22_25 : ACode := .region (o22_25.map (·.2)) [0] []
theorem s22_25 (h : wS fs out s.h.nx o22_25 s.t ⟨s.h.o, s.h.nx + 1⟩ (Q .normal)) : wC fs out c22_25 s Q := wC_region rfl rfl h
def c22_24 : ACode := .seq c22_25 .ret
theorem s22_24 (h : wS fs out s.h.nx o22_25 s.t ⟨s.h.o, s.h.nx + 1⟩ fun s1 => wC fs out .ret s1 Q) : wC fs out c22_24 s Q := wC_seq (s22_25 h)
def c22_23 : ACode := .cond (.t 38) c22_24 .skip [0, 1, 2, 6, 29, 30, 31]
theorem s22_23 (h : onC (s.t 38) (wC fs out c22_24 s fun e s1 => Q e (keepOnly [0, 1, 2, 6, 29, 30, 31] s1)) (Q .normal (keepOnly [0, 1, 2, 6, 29, 30, 31] s))) : wC fs out c22_23 s Q := wC_condC (by first | exact h | (simp only [wC_skip, wC_exit, wC_ret]; exact h))
def c22_21 : ACode := .seq c22_22 c22_23
theorem s22_21 (h : wS fs out s.h.nx o22_22 s.t ⟨s.h.o, s.h.nx + 4⟩ fun s1 => wC fs out c22_23 s1 Q) : wC fs out c22_21 s Q := wC_seq (s22_22 h)
def c22_19 : ACode := .seq c22_20 c22_21
theorem s22_19 (h : wS fs out s.h.nx o22_20 s.t ⟨s.h.o, s.h.nx + 4⟩ fun s1 => wC fs out c22_21 s1 Q) : wC fs out c22_19 s Q := wC_seq (s22_20 h)
def c22_18 : ACode := .block 1 c22_19
theorem s22_18 (h : wC fs out c22_19 s fun e s1 => Q (if e = .exit 1 then .normal else e) s1) : wC fs out c22_18 s Q := wC_block h
def o22_26 : List (Nat × AOper) := (0, ⟨some 39, .bin .add (.t 31) (.k (.v (.one (.int .i64 1)))), none⟩) ::
   (1, ⟨some 31, .mov (.t 39), none⟩) ::
   []
theorem h22_26 : wS fs out b o22_26 t h R = (wV fs out (b + 0) noT h (.bin .add (.k (t 31)) (.k (.v (.one (.int .i64 1))))) fun x39_0 h => wV fs out (b + 1) noT h (.mov (.k x39_0)) fun x31_1 h => R ⟨(upd (upd t 39 x39_0) 31 x31_1), h⟩) := by kernel_rfl
def c22_26 : ACode := .region (o22_26.map (·.2)) [0, 1] []
theorem s22_26 (h : wS fs out s.h.nx o22_26 s.t ⟨s.h.o, s.h.nx + 2⟩ (Q .normal)) : wC fs out c22_26 s Q := wC_region rfl rfl h
def c22_17 : ACode := .seq c22_18 c22_26
theorem s22_17 (h : wC fs out c22_18 s fun e s1 => match e with | .normal => wC fs out c22_26 s1 Q | e => Q e s1) : wC fs out c22_17 s Q := wC_seq h
def c22_15 : ACode := .seq c22_16 c22_17
theorem s22_15 (h : onC (s.t 32) (wC fs out c22_17 (keepOnly [0, 1, 2, 29, 30, 31] s) Q) (Q (.exit 0) (keepOnly [0, 1, 2, 29, 30, 31] s))) : wC fs out c22_15 s Q := wC_seq (s22_16 h)
def c22_13 : ACode := .seq c22_14 c22_15
theorem s22_13 (h : wS fs out s.h.nx o22_14 s.t ⟨s.h.o, s.h.nx + 1⟩ fun s1 => wC fs out c22_15 s1 Q) : wC fs out c22_13 s Q := wC_seq (s22_14 h)
def c22_12 : ACode := .loop [0, 1, 2, 29, 30, 31] c22_13
theorem s22_12 (I : Nat → St → Prop) (n : Nat) (h0 : I n (keepOnly [0, 1, 2, 29, 30, 31] s)) (step : ∀ m s (Q' : AExit → St → Prop), I m s → (∀ m' s1, m' < m → I m' (keepOnly [0, 1, 2, 29, 30, 31] s1) → Q' .normal s1) → (∀ i s1, Q (.exit i) s1 → Q' (.exit i) s1) → (∀ s1, Q .ret s1 → Q' .ret s1) → wC fs out c22_13 s Q') : wC fs out c22_12 s Q := wC_loopQ I n h0 step
def c22_11 : ACode := .block 0 c22_12
theorem s22_11 (h : wC fs out c22_12 s fun e s1 => Q (if e = .exit 0 then .normal else e) s1) : wC fs out c22_11 s Q := wC_block h
def c22_9 : ACode := .seq c22_10 c22_11
theorem s22_9 (h : wS fs out s.h.nx o22_10 s.t ⟨s.h.o, s.h.nx + 3⟩ fun s1 => wC fs out c22_11 s1 Q) : wC fs out c22_9 s Q := wC_seq (s22_10 h)
def o22_29 : List (Nat × AOper) := (0, ⟨some 40, .mov (.t 1), none⟩) ::
   (1, ⟨some 41, .len (.t 40), none⟩) ::
   (2, ⟨some 42, .mov (.k (.v (.one (.int .i64 0)))), none⟩) ::
   []
theorem h22_29 : wS fs out b o22_29 t h R = (wV fs out (b + 0) noT h (.mov (.k (t 1))) fun x40_0 h => wV fs out (b + 1) noT h (.len (.k x40_0)) fun x41_1 h => wV fs out (b + 2) noT h (.mov (.k (.v (.one (.int .i64 0))))) fun x42_2 h => R ⟨(upd (upd (upd t 40 x40_0) 41 x41_1) 42 x42_2), h⟩) := by kernel_rfl
def c22_29 : ACode := .region (o22_29.map (·.2)) [0, 1, 2] []
theorem s22_29 (h : wS fs out s.h.nx o22_29 s.t ⟨s.h.o, s.h.nx + 3⟩ (Q .normal)) : wC fs out c22_29 s Q := wC_region rfl rfl h
def o22_33 : List (Nat × AOper) := (0, ⟨some 43, .bin .lss (.t 42) (.t 41), none⟩) ::
   []
theorem h22_33 : wS fs out b o22_33 t h R = (wV fs out (b + 0) noT h (.bin .lss (.k (t 42)) (.k (t 41))) fun x43_0 h => R ⟨(upd t 43 x43_0), h⟩) := by kernel_rfl
def c22_33 : ACode := .region (o22_33.map (·.2)) [0] []
theorem s22_33 (h : wS fs out s.h.nx o22_33 s.t ⟨s.h.o, s.h.nx + 1⟩ (Q .normal)) : wC fs out c22_33 s Q := wC_region rfl rfl h
def c22_35 : ACode := .cond (.t 43) .skip (.exit 2) [0, 1, 2, 40, 41, 42]
theorem s22_35 (h : onC (s.t 43) (Q .normal (keepOnly [0, 1, 2, 40, 41, 42] s)) (Q (.exit 2) (keepOnly [0, 1, 2, 40, 41, 42] s))) : wC fs out c22_35 s Q := wC_condC (by first | exact h | (simp only [wC_skip, wC_exit, wC_ret]; exact h))
def o22_39 : List (Nat × AOper) := (0, ⟨some 44, .iadr 4 (.t 40) (.t 42), none⟩) ::
   (1, ⟨some 45, .load (some 4) (.t 44), none⟩) ::
   (2, ⟨some 10, .new 35 [(.int .i64 0), (.int .i64 0), (.int .i64 0), (.int .i64 0)], none⟩) ::
   (3, ⟨none, .store 4 (.t 10) (.t 45), none⟩) ::
   []
theorem h22_39 : wS fs out b o22_39 t h R = (wV fs out (b + 0) noT h (.iadr 4 (.k (t 40)) (.k (t 42))) fun x44_0 h => wV fs out (b + 1) noT h (.load (some 4) (.k x44_0)) fun x45_1 h => wV fs out (b + 2) noT h (.new 35 [(.int .i64 0), (.int .i64 0), (.int .i64 0), (.int .i64 0)]) fun x10_2 h => wV fs out (b + 3) noT h (.store 4 (.k x10_2) (.k x45_1)) fun _ h => R ⟨(upd (upd (upd t 44 x44_0) 45 x45_1) 10 x10_2), h⟩) := by kernel_rfl
def c22_39 : ACode := .region (o22_39.map (·.2)) [0, 1, 2, 3] []
theorem s22_39 (h : wS fs out s.h.nx o22_39 s.t ⟨s.h.o, s.h.nx + 4⟩ (Q .normal)) : wC fs out c22_39 s Q := wC_region rfl rfl h
def o22_41_14 : List (Nat × AOper) := (45, ⟨some 91, .pick (.t 81) (.k (.v (.one (.bool true)))) (.t 90), none⟩) ::
   []
theorem h22_41_14 : wS fs out b o22_41_14 t h R = (wV fs out (b + 45) noT h (.pick (.k (t 81)) (.k (.v (.one (.bool true)))) (.k (t 90))) fun x91_0 h => R ⟨(upd t 91 x91_0), h⟩) := by kernel_rfl
def o22_41_13g : List (Nat × AOper) := (44, ⟨some 90, .pick (.t 85) (.t 89) (.k (.v (.one (.bool false)))), none⟩) ::
   []
theorem h22_41_13g : wS fs out b o22_41_13g t h R = (wV fs out (b + 44) noT h (.pick (.k (t 85)) (.k (t 89)) (.k (.v (.one (.bool false))))) fun x90_0 h => R ⟨(upd t 90 x90_0), h⟩) := by kernel_rfl
def o22_41_13 : List (Nat × AOper) := grp 81 false o22_41_13g o22_41_14
theorem w22_41_13 : wS fs out b o22_41_13 t h R = onG (t 81) false (wS fs out b o22_41_13g (upd t 81 (.v (.one (.bool false)))) h fun s => wS fs out b o22_41_14 s.t s.h R) (wS fs out b o22_41_14 (upd (upd t 81 (.v (.one (.bool true)))) 90 (.tup [])) h R) (wS fs out b o22_41_14 (upd t 90 (.tup [])) h R) := wS_grpE rfl
def o22_41_12g_1 : List (Nat × AOper) := (43, ⟨some 89, .not (.t 88), none⟩) ::
   []
theorem h22_41_12g_1 : wS fs out b o22_41_12g_1 t h R = (wV fs out (b + 43) noT h (.not (.k (t 88))) fun x89_0 h => R ⟨(upd t 89 x89_0), h⟩) := by kernel_rfl
def o22_41_12g : List (Nat × AOper) := (40, ⟨some 86, .fadr 3 (.t 10), none⟩) ::
   (41, ⟨some 87, .load none (.t 86), none⟩) ::
   (42, ⟨some 88, .call 31 [(.t 87)], none⟩) ::
   o22_41_12g_1
theorem h22_41_12g : wS fs out b o22_41_12g t h R = (wV fs out (b + 40) noT h (.fadr 3 (.k (t 10))) fun x86_0 h => wV fs out (b + 41) noT h (.load none (.k x86_0)) fun x87_1 h => wV fs out (b + 42) noT h (.call 31 [(.k x87_1)]) fun x88_2 h => wS fs out b o22_41_12g_1 (upd (upd (upd t 86 x86_0) 87 x87_1) 88 x88_2) h R) := by kernel_rfl
def o22_41_12 : List (Nat × AOper) := grp 85 true o22_41_12g o22_41_13
theorem w22_41_12 : wS fs out b o22_41_12 t h R = onG (t 85) true (wS fs out b o22_41_12g (upd t 85 (.v (.one (.bool true)))) h fun s => wS fs out b o22_41_13 s.t s.h R) (wS fs out b o22_41_13 (upd (upd (upd (upd (upd t 85 (.v (.one (.bool false)))) 86 (.tup [])) 87 (.tup [])) 88 (.tup [])) 89 (.tup [])) h R) (wS fs out b o22_41_13 (upd (upd (upd (upd t 86 (.tup [])) 87 (.tup [])) 88 (.tup [])) 89 (.tup [])) h R) := wS_grpE rfl
def o22_41_11g : List (Nat × AOper) := (36, ⟨some 82, .fadr 3 (.t 10), none⟩) ::
   (37, ⟨some 83, .load none (.t 82), none⟩) ::
   (38, ⟨some 84, .bin .neq (.t 83) (.k (.v (.one (.int .i64 (-1))))), none⟩) ::
   (39, ⟨some 85, .mov (.t 84), none⟩) ::
   []
theorem h22_41_11g : wS fs out b o22_41_11g t h R = (wV fs out (b + 36) noT h (.fadr 3 (.k (t 10))) fun x82_0 h => wV fs out (b + 37) noT h (.load none (.k x82_0)) fun x83_1 h => wV fs out (b + 38) noT h (.bin .neq (.k x83_1) (.k (.v (.one (.int .i64 (-1)))))) fun x84_2 h => wV fs out (b + 39) noT h (.mov (.k x84_2)) fun x85_3 h => R ⟨(upd (upd (upd (upd t 82 x82_0) 83 x83_1) 84 x84_2) 85 x85_3), h⟩) := by kernel_rfl
def o22_41_11 : List (Nat × AOper) := grp 81 false o22_41_11g o22_41_12
theorem w22_41_11 : wS fs out b o22_41_11 t h R = onG (t 81) false (wS fs out b o22_41_11g (upd t 81 (.v (.one (.bool false)))) h fun s => wS fs out b o22_41_12 s.t s.h R) (wS fs out b o22_41_12 (upd (upd (upd (upd (upd t 81 (.v (.one (.bool true)))) 82 (.tup [])) 83 (.tup [])) 84 (.tup [])) 85 (.tup [])) h R) (wS fs out b o22_41_12 (upd (upd (upd (upd t 82 (.tup [])) 83 (.tup [])) 84 (.tup [])) 85 (.tup [])) h R) := wS_grpE rfl
def o22_41_10 : List (Nat × AOper) := (34, ⟨some 80, .pick (.t 75) (.k (.v (.one (.bool true)))) (.t 79), none⟩) ::
   (35, ⟨some 81, .mov (.t 80), none⟩) ::
   o22_41_11
theorem h22_41_10 : wS fs out b o22_41_10 t h R = (wV fs out (b + 34) noT h (.pick (.k (t 75)) (.k (.v (.one (.bool true)))) (.k (t 79))) fun x80_0 h => wV fs out (b + 35) noT h (.mov (.k x80_0)) fun x81_1 h => wS fs out b o22_41_11 (upd (upd t 80 x80_0) 81 x81_1) h R) := by kernel_rfl
def o22_41_9g_1 : List (Nat × AOper) := (33, ⟨some 79, .not (.t 78), none⟩) ::
   []
theorem h22_41_9g_1 : wS fs out b o22_41_9g_1 t h R = (wV fs out (b + 33) noT h (.not (.k (t 78))) fun x79_0 h => R ⟨(upd t 79 x79_0), h⟩) := by kernel_rfl
def o22_41_9g : List (Nat × AOper) := (30, ⟨some 76, .fadr 2 (.t 10), none⟩) ::
   (31, ⟨some 77, .load none (.t 76), none⟩) ::
   (32, ⟨some 78, .call 31 [(.t 77)], none⟩) ::
   o22_41_9g_1
theorem h22_41_9g : wS fs out b o22_41_9g t h R = (wV fs out (b + 30) noT h (.fadr 2 (.k (t 10))) fun x76_0 h => wV fs out (b + 31) noT h (.load none (.k x76_0)) fun x77_1 h => wV fs out (b + 32) noT h (.call 31 [(.k x77_1)]) fun x78_2 h => wS fs out b o22_41_9g_1 (upd (upd (upd t 76 x76_0) 77 x77_1) 78 x78_2) h R) := by kernel_rfl
def o22_41_9 : List (Nat × AOper) := grp 75 false o22_41_9g o22_41_10
theorem w22_41_9 : wS fs out b o22_41_9 t h R = onG (t 75) false (wS fs out b o22_41_9g (upd t 75 (.v (.one (.bool false)))) h fun s => wS fs out b o22_41_10 s.t s.h R) (wS fs out b o22_41_10 (upd (upd (upd (upd (upd t 75 (.v (.one (.bool true)))) 76 (.tup [])) 77 (.tup [])) 78 (.tup [])) 79 (.tup [])) h R) (wS fs out b o22_41_10 (upd (upd (upd (upd t 76 (.tup [])) 77 (.tup [])) 78 (.tup [])) 79 (.tup [])) h R) := wS_grpE rfl
def o22_41_8 : List (Nat × AOper) := (28, ⟨some 74, .pick (.t 68) (.k (.v (.one (.bool true)))) (.t 73), none⟩) ::
   (29, ⟨some 75, .mov (.t 74), none⟩) ::
   o22_41_9
theorem h22_41_8 : wS fs out b o22_41_8 t h R = (wV fs out (b + 28) noT h (.pick (.k (t 68)) (.k (.v (.one (.bool true)))) (.k (t 73))) fun x74_0 h => wV fs out (b + 29) noT h (.mov (.k x74_0)) fun x75_1 h => wS fs out b o22_41_9 (upd (upd t 74 x74_0) 75 x75_1) h R) := by kernel_rfl
def o22_41_7g : List (Nat × AOper) := (23, ⟨some 69, .fadr 0 (.t 10), none⟩) ::
   (24, ⟨some 70, .load none (.t 69), none⟩) ::
   (25, ⟨some 71, .fadr 1 (.t 10), none⟩) ::
   (26, ⟨some 72, .load none (.t 71), none⟩) ::
   (27, ⟨some 73, .bin .eql (.t 70) (.t 72), none⟩) ::
   []
theorem h22_41_7g : wS fs out b o22_41_7g t h R = (wV fs out (b + 23) noT h (.fadr 0 (.k (t 10))) fun x69_0 h => wV fs out (b + 24) noT h (.load none (.k x69_0)) fun x70_1 h => wV fs out (b + 25) noT h (.fadr 1 (.k (t 10))) fun x71_2 h => wV fs out (b + 26) noT h (.load none (.k x71_2)) fun x72_3 h => wV fs out (b + 27) noT h (.bin .eql (.k x70_1) (.k x72_3)) fun x73_4 h => R ⟨(upd (upd (upd (upd (upd t 69 x69_0) 70 x70_1) 71 x71_2) 72 x72_3) 73 x73_4), h⟩) := by kernel_rfl
def o22_41_7 : List (Nat × AOper) := grp 68 false o22_41_7g o22_41_8
theorem w22_41_7 : wS fs out b o22_41_7 t h R = onG (t 68) false (wS fs out b o22_41_7g (upd t 68 (.v (.one (.bool false)))) h fun s => wS fs out b o22_41_8 s.t s.h R) (wS fs out b o22_41_8 (upd (upd (upd (upd (upd (upd t 68 (.v (.one (.bool true)))) 69 (.tup [])) 70 (.tup [])) 71 (.tup [])) 72 (.tup [])) 73 (.tup [])) h R) (wS fs out b o22_41_8 (upd (upd (upd (upd (upd t 69 (.tup [])) 70 (.tup [])) 71 (.tup [])) 72 (.tup [])) 73 (.tup [])) h R) := wS_grpE rfl
def o22_41_6 : List (Nat × AOper) := (21, ⟨some 67, .pick (.t 61) (.k (.v (.one (.bool true)))) (.t 66), none⟩) ::
   (22, ⟨some 68, .mov (.t 67), none⟩) ::
   o22_41_7
theorem h22_41_6 : wS fs out b o22_41_6 t h R = (wV fs out (b + 21) noT h (.pick (.k (t 61)) (.k (.v (.one (.bool true)))) (.k (t 66))) fun x67_0 h => wV fs out (b + 22) noT h (.mov (.k x67_0)) fun x68_1 h => wS fs out b o22_41_7 (upd (upd t 67 x67_0) 68 x68_1) h R) := by kernel_rfl
def o22_41_5g : List (Nat × AOper) := (16, ⟨some 62, .fadr 1 (.t 10), none⟩) ::
   (17, ⟨some 63, .load none (.t 62), none⟩) ::
   (18, ⟨some 64, .mov (.t 0), none⟩) ::
   (19, ⟨some 65, .len (.t 64), none⟩) ::
   (20, ⟨some 66, .bin .geq (.t 63) (.t 65), none⟩) ::
   []
theorem h22_41_5g : wS fs out b o22_41_5g t h R = (wV fs out (b + 16) noT h (.fadr 1 (.k (t 10))) fun x62_0 h => wV fs out (b + 17) noT h (.load none (.k x62_0)) fun x63_1 h => wV fs out (b + 18) noT h (.mov (.k (t 0))) fun x64_2 h => wV fs out (b + 19) noT h (.len (.k x64_2)) fun x65_3 h => wV fs out (b + 20) noT h (.bin .geq (.k x63_1) (.k x65_3)) fun x66_4 h => R ⟨(upd (upd (upd (upd (upd t 62 x62_0) 63 x63_1) 64 x64_2) 65 x65_3) 66 x66_4), h⟩) := by kernel_rfl
def o22_41_5 : List (Nat × AOper) := grp 61 false o22_41_5g o22_41_6
theorem w22_41_5 : wS fs out b o22_41_5 t h R = onG (t 61) false (wS fs out b o22_41_5g (upd t 61 (.v (.one (.bool false)))) h fun s => wS fs out b o22_41_6 s.t s.h R) (wS fs out b o22_41_6 (upd (upd (upd (upd (upd (upd t 61 (.v (.one (.bool true)))) 62 (.tup [])) 63 (.tup [])) 64 (.tup [])) 65 (.tup [])) 66 (.tup [])) h R) (wS fs out b o22_41_6 (upd (upd (upd (upd (upd t 62 (.tup [])) 63 (.tup [])) 64 (.tup [])) 65 (.tup [])) 66 (.tup [])) h R) := wS_grpE rfl
def o22_41_4 : List (Nat × AOper) := (14, ⟨some 60, .pick (.t 56) (.k (.v (.one (.bool true)))) (.t 59), none⟩) ::
   (15, ⟨some 61, .mov (.t 60), none⟩) ::
   o22_41_5
theorem h22_41_4 : wS fs out b o22_41_4 t h R = (wV fs out (b + 14) noT h (.pick (.k (t 56)) (.k (.v (.one (.bool true)))) (.k (t 59))) fun x60_0 h => wV fs out (b + 15) noT h (.mov (.k x60_0)) fun x61_1 h => wS fs out b o22_41_5 (upd (upd t 60 x60_0) 61 x61_1) h R) := by kernel_rfl
def o22_41_3g : List (Nat × AOper) := (11, ⟨some 57, .fadr 1 (.t 10), none⟩) ::
   (12, ⟨some 58, .load none (.t 57), none⟩) ::
   (13, ⟨some 59, .bin .lss (.t 58) (.k (.v (.one (.int .i64 0)))), none⟩) ::
   []
theorem h22_41_3g : wS fs out b o22_41_3g t h R = (wV fs out (b + 11) noT h (.fadr 1 (.k (t 10))) fun x57_0 h => wV fs out (b + 12) noT h (.load none (.k x57_0)) fun x58_1 h => wV fs out (b + 13) noT h (.bin .lss (.k x58_1) (.k (.v (.one (.int .i64 0))))) fun x59_2 h => R ⟨(upd (upd (upd t 57 x57_0) 58 x58_1) 59 x59_2), h⟩) := by kernel_rfl
def o22_41_3 : List (Nat × AOper) := grp 56 false o22_41_3g o22_41_4
theorem w22_41_3 : wS fs out b o22_41_3 t h R = onG (t 56) false (wS fs out b o22_41_3g (upd t 56 (.v (.one (.bool false)))) h fun s => wS fs out b o22_41_4 s.t s.h R) (wS fs out b o22_41_4 (upd (upd (upd (upd t 56 (.v (.one (.bool true)))) 57 (.tup [])) 58 (.tup [])) 59 (.tup [])) h R) (wS fs out b o22_41_4 (upd (upd (upd t 57 (.tup [])) 58 (.tup [])) 59 (.tup [])) h R) := wS_grpE rfl
def o22_41_2 : List (Nat × AOper) := (9, ⟨some 55, .pick (.t 49) (.k (.v (.one (.bool true)))) (.t 54), none⟩) ::
   (10, ⟨some 56, .mov (.t 55), none⟩) ::
   o22_41_3
theorem h22_41_2 : wS fs out b o22_41_2 t h R = (wV fs out (b + 9) noT h (.pick (.k (t 49)) (.k (.v (.one (.bool true)))) (.k (t 54))) fun x55_0 h => wV fs out (b + 10) noT h (.mov (.k x55_0)) fun x56_1 h => wS fs out b o22_41_3 (upd (upd t 55 x55_0) 56 x56_1) h R) := by kernel_rfl
def o22_41_1g : List (Nat × AOper) := (4, ⟨some 50, .fadr 0 (.t 10), none⟩) ::
   (5, ⟨some 51, .load none (.t 50), none⟩) ::
   (6, ⟨some 52, .mov (.t 0), none⟩) ::
   (7, ⟨some 53, .len (.t 52), none⟩) ::
   (8, ⟨some 54, .bin .geq (.t 51) (.t 53), none⟩) ::
   []
theorem h22_41_1g : wS fs out b o22_41_1g t h R = (wV fs out (b + 4) noT h (.fadr 0 (.k (t 10))) fun x50_0 h => wV fs out (b + 5) noT h (.load none (.k x50_0)) fun x51_1 h => wV fs out (b + 6) noT h (.mov (.k (t 0))) fun x52_2 h => wV fs out (b + 7) noT h (.len (.k x52_2)) fun x53_3 h => wV fs out (b + 8) noT h (.bin .geq (.k x51_1) (.k x53_3)) fun x54_4 h => R ⟨(upd (upd (upd (upd (upd t 50 x50_0) 51 x51_1) 52 x52_2) 53 x53_3) 54 x54_4), h⟩) := by kernel_rfl
def o22_41_1 : List (Nat × AOper) := grp 49 false o22_41_1g o22_41_2
theorem w22_41_1 : wS fs out b o22_41_1 t h R = onG (t 49) false (wS fs out b o22_41_1g (upd t 49 (.v (.one (.bool false)))) h fun s => wS fs out b o22_41_2 s.t s.h R) (wS fs out b o22_41_2 (upd (upd (upd (upd (upd (upd t 49 (.v (.one (.bool true)))) 50 (.tup [])) 51 (.tup [])) 52 (.tup [])) 53 (.tup [])) 54 (.tup [])) h R) (wS fs out b o22_41_2 (upd (upd (upd (upd (upd t 50 (.tup [])) 51 (.tup [])) 52 (.tup [])) 53 (.tup [])) 54 (.tup [])) h R) := wS_grpE rfl
def o22_41 : List (Nat × AOper) := (0, ⟨some 46, .fadr 0 (.t 10), none⟩) ::
   (1, ⟨some 47, .load none (.t 46), none⟩) ::
   (2, ⟨some 48, .bin .lss (.t 47) (.k (.v (.one (.int .i64 0)))), none⟩) ::
   (3, ⟨some 49, .mov (.t 48), none⟩) ::
   o22_41_1
theorem h22_41 : wS fs out b o22_41 t h R = (wV fs out (b + 0) noT h (.fadr 0 (.k (t 10))) fun x46_0 h => wV fs out (b + 1) noT h (.load none (.k x46_0)) fun x47_1 h => wV fs out (b + 2) noT h (.bin .lss (.k x47_1) (.k (.v (.one (.int .i64 0))))) fun x48_2 h => wV fs out (b + 3) noT h (.mov (.k x48_2)) fun x49_3 h => wS fs out b o22_41_1 (upd (upd (upd (upd t 46 x46_0) 47 x47_1) 48 x48_2) 49 x49_3) h R) := by kernel_rfl
def c22_41 : ACode := .region (o22_41.map (·.2)) [0, 1, 2, 3, 4, 5, 6, 7, 8, 9, 10, 11, 12, 13, 14, 15, 16, 17, 18, 19, 20, 21, 22, 23, 24, 25, 26, 27, 28, 29, 30, 31, 32, 33, 34, 35, 36, 37, 38, 39, 40, 41, 42, 43, 44, 45] []
theorem s22_41 (h : wS fs out s.h.nx o22_41 s.t ⟨s.h.o, s.h.nx + 46⟩ (Q .normal)) : wC fs out c22_41 s Q := wC_region rfl rfl h
def o22_44 : List (Nat × AOper) := (0, ⟨some 6, .mov (.k (.v (.one (.bool false)))), none⟩) ::
   []
theorem h22_44 : wS fs out b o22_44 t h R = (wV fs out (b + 0) noT h (.mov (.k (.v (.one (.bool false))))) fun x6_0 h => R ⟨(upd t 6 x6_0), h⟩) := by kernel_rfl
def c22_44 : ACode := .region (o22_44.map (·.2)) [0] []
theorem s22_44 (h : wS fs out s.h.nx o22_44 s.t ⟨s.h.o, s.h.nx + 1⟩ (Q .normal)) : wC fs out c22_44 s Q := wC_region rfl rfl h
def c22_43 : ACode := .seq c22_44 .ret
theorem s22_43 (h : wS fs out s.h.nx o22_44 s.t ⟨s.h.o, s.h.nx + 1⟩ fun s1 => wC fs out .ret s1 Q) : wC fs out c22_43 s Q := wC_seq (s22_44 h)
def c22_42 : ACode := .cond (.t 91) c22_43 .skip [0, 1, 2, 6, 40, 41, 42]
theorem s22_42 (h : onC (s.t 91) (wC fs out c22_43 s fun e s1 => Q e (keepOnly [0, 1, 2, 6, 40, 41, 42] s1)) (Q .normal (keepOnly [0, 1, 2, 6, 40, 41, 42] s))) : wC fs out c22_42 s Q := wC_condC (by first | exact h | (simp only [wC_skip, wC_exit, wC_ret]; exact h))
def c22_40 : ACode := .seq c22_41 c22_42
theorem s22_40 (h : wS fs out s.h.nx o22_41 s.t ⟨s.h.o, s.h.nx + 46⟩ fun s1 => wC fs out c22_42 s1 Q) : wC fs out c22_40 s Q := wC_seq (s22_41 h)
def c22_38 : ACode := .seq c22_39 c22_40
theorem s22_38 (h : wS fs out s.h.nx o22_39 s.t ⟨s.h.o, s.h.nx + 4⟩ fun s1 => wC fs out c22_40 s1 Q) : wC fs out c22_38 s Q := wC_seq (s22_39 h)
def c22_37 : ACode := .block 3 c22_38
theorem s22_37 (h : wC fs out c22_38 s fun e s1 => Q (if e = .exit 3 then .normal else e) s1) : wC fs out c22_37 s Q := wC_block h
def o22_45 : List (Nat × AOper) := (0, ⟨some 92, .bin .add (.t 42) (.k (.v (.one (.int .i64 1)))), none⟩) ::
   (1, ⟨some 42, .mov (.t 92), none⟩) ::
   []
theorem h22_45 : wS fs out b o22_45 t h R = (wV fs out (b + 0) noT h (.bin .add (.k (t 42)) (.k (.v (.one (.int .i64 1))))) fun x92_0 h => wV fs out (b + 1) noT h (.mov (.k x92_0)) fun x42_1 h => R ⟨(upd (upd t 92 x92_0) 42 x42_1), h⟩) := by kernel_rfl
def c22_45 : ACode := .region (o22_45.map (·.2)) [0, 1] []
theorem s22_45 (h : wS fs out s.h.nx o22_45 s.t ⟨s.h.o, s.h.nx + 2⟩ (Q .normal)) : wC fs out c22_45 s Q := wC_region rfl rfl h
def c22_36 : ACode := .seq c22_37 c22_45
theorem s22_36 (h : wC fs out c22_37 s fun e s1 => match e with | .normal => wC fs out c22_45 s1 Q | e => Q e s1) : wC fs out c22_36 s Q := wC_seq h
def c22_34 : ACode := .seq c22_35 c22_36
theorem s22_34 (h : onC (s.t 43) (wC fs out c22_36 (keepOnly [0, 1, 2, 40, 41, 42] s) Q) (Q (.exit 2) (keepOnly [0, 1, 2, 40, 41, 42] s))) : wC fs out c22_34 s Q := wC_seq (s22_35 h)
def c22_32 : ACode := .seq c22_33 c22_34
theorem s22_32 (h : wS fs out s.h.nx o22_33 s.t ⟨s.h.o, s.h.nx + 1⟩ fun s1 => wC fs out c22_34 s1 Q) : wC fs out c22_32 s Q := wC_seq (s22_33 h)
def c22_31 : ACode := .loop [0, 1, 2, 40, 41, 42] c22_32
theorem s22_31 (I : Nat → St → Prop) (n : Nat) (h0 : I n (keepOnly [0, 1, 2, 40, 41, 42] s)) (step : ∀ m s (Q' : AExit → St → Prop), I m s → (∀ m' s1, m' < m → I m' (keepOnly [0, 1, 2, 40, 41, 42] s1) → Q' .normal s1) → (∀ i s1, Q (.exit i) s1 → Q' (.exit i) s1) → (∀ s1, Q .ret s1 → Q' .ret s1) → wC fs out c22_32 s Q') : wC fs out c22_31 s Q := wC_loopQ I n h0 step
def c22_30 : ACode := .block 2 c22_31
theorem s22_30 (h : wC fs out c22_31 s fun e s1 => Q (if e = .exit 2 then .normal else e) s1) : wC fs out c22_30 s Q := wC_block h
def c22_28 : ACode := .seq c22_29 c22_30
theorem s22_28 (h : wS fs out s.h.nx o22_29 s.t ⟨s.h.o, s.h.nx + 3⟩ fun s1 => wC fs out c22_30 s1 Q) : wC fs out c22_28 s Q := wC_seq (s22_29 h)
def o22_47 : List (Nat × AOper) := (0, ⟨some 93, .mkm (.int .i64), none⟩) ::
   (1, ⟨some 11, .mov (.t 93), none⟩) ::
   []
theorem h22_47 : wS fs out b o22_47 t h R = (wV fs out (b + 0) noT h (.mkm (.int .i64)) fun x93_0 h => wV fs out (b + 1) noT h (.mov (.k x93_0)) fun x11_1 h => R ⟨(upd (upd t 93 x93_0) 11 x11_1), h⟩) := by kernel_rfl
def c22_47 : ACode := .region (o22_47.map (·.2)) [0, 1] []
theorem s22_47 (h : wS fs out s.h.nx o22_47 s.t ⟨s.h.o, s.h.nx + 2⟩ (Q .normal)) : wC fs out c22_47 s Q := wC_region rfl rfl h
def o22_50 : List (Nat × AOper) := (0, ⟨some 94, .mov (.t 2), none⟩) ::
   (1, ⟨some 95, .len (.t 94), none⟩) ::
   (2, ⟨some 96, .mov (.k (.v (.one (.int .i64 0)))), none⟩) ::
   []
theorem h22_50 : wS fs out b o22_50 t h R = (wV fs out (b + 0) noT h (.mov (.k (t 2))) fun x94_0 h => wV fs out (b + 1) noT h (.len (.k x94_0)) fun x95_1 h => wV fs out (b + 2) noT h (.mov (.k (.v (.one (.int .i64 0))))) fun x96_2 h => R ⟨(upd (upd (upd t 94 x94_0) 95 x95_1) 96 x96_2), h⟩) := by kernel_rfl
def c22_50 : ACode := .region (o22_50.map (·.2)) [0, 1, 2] []
theorem s22_50 (h : wS fs out s.h.nx o22_50 s.t ⟨s.h.o, s.h.nx + 3⟩ (Q .normal)) : wC fs out c22_50 s Q := wC_region rfl rfl h
def o22_54 : List (Nat × AOper) := (0, ⟨some 97, .bin .lss (.t 96) (.t 95), none⟩) ::
   []
theorem h22_54 : wS fs out b o22_54 t h R = (wV fs out (b + 0) noT h (.bin .lss (.k (t 96)) (.k (t 95))) fun x97_0 h => R ⟨(upd t 97 x97_0), h⟩) := by kernel_rfl
def c22_54 : ACode := .region (o22_54.map (·.2)) [0] []
theorem s22_54 (h : wS fs out s.h.nx o22_54 s.t ⟨s.h.o, s.h.nx + 1⟩ (Q .normal)) : wC fs out c22_54 s Q := wC_region rfl rfl h
def c22_56 : ACode := .cond (.t 97) .skip (.exit 4) [0, 1, 11, 94, 95, 96]
theorem s22_56 (h : onC (s.t 97) (Q .normal (keepOnly [0, 1, 11, 94, 95, 96] s)) (Q (.exit 4) (keepOnly [0, 1, 11, 94, 95, 96] s))) : wC fs out c22_56 s Q := wC_condC (by first | exact h | (simp only [wC_skip, wC_exit, wC_ret]; exact h))
def o22_60 : List (Nat × AOper) := (0, ⟨some 98, .iadr 2 (.t 94) (.t 96), none⟩) ::
   (1, ⟨some 99, .load (some 2) (.t 98), none⟩) ::
   (2, ⟨some 13, .new 39 [(.int .i64 0), (.int .i64 0)], none⟩) ::
   (3, ⟨none, .store 2 (.t 13) (.t 99), none⟩) ::
   []
theorem h22_60 : wS fs out b o22_60 t h R = (wV fs out (b + 0) noT h (.iadr 2 (.k (t 94)) (.k (t 96))) fun x98_0 h => wV fs out (b + 1) noT h (.load (some 2) (.k x98_0)) fun x99_1 h => wV fs out (b + 2) noT h (.new 39 [(.int .i64 0), (.int .i64 0)]) fun x13_2 h => wV fs out (b + 3) noT h (.store 2 (.k x13_2) (.k x99_1)) fun _ h => R ⟨(upd (upd (upd t 98 x98_0) 99 x99_1) 13 x13_2), h⟩) := by kernel_rfl
def c22_60 : ACode := .region (o22_60.map (·.2)) [0, 1, 2, 3] []
theorem s22_60 (h : wS fs out s.h.nx o22_60 s.t ⟨s.h.o, s.h.nx + 4⟩ (Q .normal)) : wC fs out c22_60 s Q := wC_region rfl rfl h
def o22_63_6 : List (Nat × AOper) := (21, ⟨some 121, .pick (.t 116) (.k (.v (.one (.bool true)))) (.t 120), none⟩) ::
   []
theorem h22_63_6 : wS fs out b o22_63_6 t h R = (wV fs out (b + 21) noT h (.pick (.k (t 116)) (.k (.v (.one (.bool true)))) (.k (t 120))) fun x121_0 h => R ⟨(upd t 121 x121_0), h⟩) := by kernel_rfl
def o22_63_5g : List (Nat × AOper) := (17, ⟨some 117, .mov (.t 11), none⟩) ::
   (18, ⟨some 118, .fadr 0 (.t 13), none⟩) ::
   (19, ⟨some 119, .load none (.t 118), none⟩) ::
   (20, ⟨some 120, .look (.int .i64) (.one (.bool false)) false (.t 117) (.t 119), none⟩) ::
   []
theorem h22_63_5g : wS fs out b o22_63_5g t h R = (wV fs out (b + 17) noT h (.mov (.k (t 11))) fun x117_0 h => wV fs out (b + 18) noT h (.fadr 0 (.k (t 13))) fun x118_1 h => wV fs out (b + 19) noT h (.load none (.k x118_1)) fun x119_2 h => wV fs out (b + 20) noT h (.look (.int .i64) (.one (.bool false)) false (.k x117_0) (.k x119_2)) fun x120_3 h => R ⟨(upd (upd (upd (upd t 117 x117_0) 118 x118_1) 119 x119_2) 120 x120_3), h⟩) := by kernel_rfl
def o22_63_5 : List (Nat × AOper) := grp 116 false o22_63_5g o22_63_6
theorem w22_63_5 : wS fs out b o22_63_5 t h R = onG (t 116) false (wS fs out b o22_63_5g (upd t 116 (.v (.one (.bool false)))) h fun s => wS fs out b o22_63_6 s.t s.h R) (wS fs out b o22_63_6 (upd (upd (upd (upd (upd t 116 (.v (.one (.bool true)))) 117 (.tup [])) 118 (.tup [])) 119 (.tup [])) 120 (.tup [])) h R) (wS fs out b o22_63_6 (upd (upd (upd (upd t 117 (.tup [])) 118 (.tup [])) 119 (.tup [])) 120 (.tup [])) h R) := wS_grpE rfl
def o22_63_4 : List (Nat × AOper) := (15, ⟨some 115, .pick (.t 110) (.k (.v (.one (.bool true)))) (.t 114), none⟩) ::
   (16, ⟨some 116, .mov (.t 115), none⟩) ::
   o22_63_5
theorem h22_63_4 : wS fs out b o22_63_4 t h R = (wV fs out (b + 15) noT h (.pick (.k (t 110)) (.k (.v (.one (.bool true)))) (.k (t 114))) fun x115_0 h => wV fs out (b + 16) noT h (.mov (.k x115_0)) fun x116_1 h => wS fs out b o22_63_5 (upd (upd t 115 x115_0) 116 x116_1) h R) := by kernel_rfl
def o22_63_3g_1 : List (Nat × AOper) := (14, ⟨some 114, .not (.t 113), none⟩) ::
   []
theorem h22_63_3g_1 : wS fs out b o22_63_3g_1 t h R = (wV fs out (b + 14) noT h (.not (.k (t 113))) fun x114_0 h => R ⟨(upd t 114 x114_0), h⟩) := by kernel_rfl
def o22_63_3g : List (Nat × AOper) := (11, ⟨some 111, .fadr 1 (.t 13), none⟩) ::
   (12, ⟨some 112, .load none (.t 111), none⟩) ::
   (13, ⟨some 113, .call 31 [(.t 112)], none⟩) ::
   o22_63_3g_1
theorem h22_63_3g : wS fs out b o22_63_3g t h R = (wV fs out (b + 11) noT h (.fadr 1 (.k (t 13))) fun x111_0 h => wV fs out (b + 12) noT h (.load none (.k x111_0)) fun x112_1 h => wV fs out (b + 13) noT h (.call 31 [(.k x112_1)]) fun x113_2 h => wS fs out b o22_63_3g_1 (upd (upd (upd t 111 x111_0) 112 x112_1) 113 x113_2) h R) := by kernel_rfl
def o22_63_3 : List (Nat × AOper) := grp 110 false o22_63_3g o22_63_4
theorem w22_63_3 : wS fs out b o22_63_3 t h R = onG (t 110) false (wS fs out b o22_63_3g (upd t 110 (.v (.one (.bool false)))) h fun s => wS fs out b o22_63_4 s.t s.h R) (wS fs out b o22_63_4 (upd (upd (upd (upd (upd t 110 (.v (.one (.bool true)))) 111 (.tup [])) 112 (.tup [])) 113 (.tup [])) 114 (.tup [])) h R) (wS fs out b o22_63_4 (upd (upd (upd (upd t 111 (.tup [])) 112 (.tup [])) 113 (.tup [])) 114 (.tup [])) h R) := wS_grpE rfl
def o22_63_2 : List (Nat × AOper) := (9, ⟨some 109, .pick (.t 103) (.k (.v (.one (.bool true)))) (.t 108), none⟩) ::
   (10, ⟨some 110, .mov (.t 109), none⟩) ::
   o22_63_3
theorem h22_63_2 : wS fs out b o22_63_2 t h R = (wV fs out (b + 9) noT h (.pick (.k (t 103)) (.k (.v (.one (.bool true)))) (.k (t 108))) fun x109_0 h => wV fs out (b + 10) noT h (.mov (.k x109_0)) fun x110_1 h => wS fs out b o22_63_3 (upd (upd t 109 x109_0) 110 x110_1) h R) := by kernel_rfl
def o22_63_1g : List (Nat × AOper) := (4, ⟨some 104, .fadr 0 (.t 13), none⟩) ::
   (5, ⟨some 105, .load none (.t 104), none⟩) ::
   (6, ⟨some 106, .mov (.t 0), none⟩) ::
   (7, ⟨some 107, .len (.t 106), none⟩) ::
   (8, ⟨some 108, .bin .geq (.t 105) (.t 107), none⟩) ::
   []
theorem h22_63_1g : wS fs out b o22_63_1g t h R = (wV fs out (b + 4) noT h (.fadr 0 (.k (t 13))) fun x104_0 h => wV fs out (b + 5) noT h (.load none (.k x104_0)) fun x105_1 h => wV fs out (b + 6) noT h (.mov (.k (t 0))) fun x106_2 h => wV fs out (b + 7) noT h (.len (.k x106_2)) fun x107_3 h => wV fs out (b + 8) noT h (.bin .geq (.k x105_1) (.k x107_3)) fun x108_4 h => R ⟨(upd (upd (upd (upd (upd t 104 x104_0) 105 x105_1) 106 x106_2) 107 x107_3) 108 x108_4), h⟩) := by kernel_rfl
def o22_63_1 : List (Nat × AOper) := grp 103 false o22_63_1g o22_63_2
theorem w22_63_1 : wS fs out b o22_63_1 t h R = onG (t 103) false (wS fs out b o22_63_1g (upd t 103 (.v (.one (.bool false)))) h fun s => wS fs out b o22_63_2 s.t s.h R) (wS fs out b o22_63_2 (upd (upd (upd (upd (upd (upd t 103 (.v (.one (.bool true)))) 104 (.tup [])) 105 (.tup [])) 106 (.tup [])) 107 (.tup [])) 108 (.tup [])) h R) (wS fs out b o22_63_2 (upd (upd (upd (upd (upd t 104 (.tup [])) 105 (.tup [])) 106 (.tup [])) 107 (.tup [])) 108 (.tup [])) h R) := wS_grpE rfl
def o22_63 : List (Nat × AOper) := (0, ⟨some 100, .fadr 0 (.t 13), none⟩) ::
   (1, ⟨some 101, .load none (.t 100), none⟩) ::
   (2, ⟨some 102, .bin .lss (.t 101) (.k (.v (.one (.int .i64 0)))), none⟩) ::
   (3, ⟨some 103, .mov (.t 102), none⟩) ::
   o22_63_1
theorem h22_63 : wS fs out b o22_63 t h R = (wV fs out (b + 0) noT h (.fadr 0 (.k (t 13))) fun x100_0 h => wV fs out (b + 1) noT h (.load none (.k x100_0)) fun x101_1 h => wV fs out (b + 2) noT h (.bin .lss (.k x101_1) (.k (.v (.one (.int .i64 0))))) fun x102_2 h => wV fs out (b + 3) noT h (.mov (.k x102_2)) fun x103_3 h => wS fs out b o22_63_1 (upd (upd (upd (upd t 100 x100_0) 101 x101_1) 102 x102_2) 103 x103_3) h R) := by kernel_rfl
def c22_63 : ACode := .region (o22_63.map (·.2)) [0, 1, 2, 3, 4, 5, 6, 7, 8, 9, 10, 11, 12, 13, 14, 15, 16, 17, 18, 19, 20, 21] []
theorem s22_63 (h : wS fs out s.h.nx o22_63 s.t ⟨s.h.o, s.h.nx + 22⟩ (Q .normal)) : wC fs out c22_63 s Q := wC_region rfl rfl h
def o22_66 : List (Nat × AOper) := (0, ⟨some 6, .mov (.k (.v (.one (.bool false)))), none⟩) ::
   []
theorem h22_66 : wS fs out b o22_66 t h R = (wV fs out (b + 0) noT h (.mov (.k (.v (.one (.bool false))))) fun x6_0 h => R ⟨(upd t 6 x6_0), h⟩) := by kernel_rfl
def c22_66 : ACode := .region (o22_66.map (·.2)) [0] []
theorem s22_66 (h : wS fs out s.h.nx o22_66 s.t ⟨s.h.o, s.h.nx + 1⟩ (Q .normal)) : wC fs out c22_66 s Q := wC_region rfl rfl h
def c22_65 : ACode := .seq c22_66 .ret
theorem s22_65 (h : wS fs out s.h.nx o22_66 s.t ⟨s.h.o, s.h.nx + 1⟩ fun s1 => wC fs out .ret s1 Q) : wC fs out c22_65 s Q := wC_seq (s22_66 h)
def c22_64 : ACode := .cond (.t 121) c22_65 .skip [0, 1, 6, 11, 13, 94, 95, 96]
theorem s22_64 (h : onC (s.t 121) (wC fs out c22_65 s fun e s1 => Q e (keepOnly [0, 1, 6, 11, 13, 94, 95, 96] s1)) (Q .normal (keepOnly [0, 1, 6, 11, 13, 94, 95, 96] s))) : wC fs out c22_64 s Q := wC_condC (by first | exact h | (simp only [wC_skip, wC_exit, wC_ret]; exact h))
def c22_62 : ACode := .seq c22_63 c22_64
theorem s22_62 (h : wS fs out s.h.nx o22_63 s.t ⟨s.h.o, s.h.nx + 22⟩ fun s1 => wC fs out c22_64 s1 Q) : wC fs out c22_62 s Q := wC_seq (s22_63 h)
def o22_67 : List (Nat × AOper) := (0, ⟨some 122, .mov (.t 11), none⟩) ::
   (1, ⟨some 123, .fadr 0 (.t 13), none⟩) ::
   (2, ⟨some 124, .load none (.t 123), none⟩) ::
   (3, ⟨none, .mupd (.int .i64) (.t 122) (.t 124) (.k (.v (.one (.bool true)))), none⟩) ::
   []
theorem h22_67 : wS fs out b o22_67 t h R = (wV fs out (b + 0) noT h (.mov (.k (t 11))) fun x122_0 h => wV fs out (b + 1) noT h (.fadr 0 (.k (t 13))) fun x123_1 h => wV fs out (b + 2) noT h (.load none (.k x123_1)) fun x124_2 h => wV fs out (b + 3) noT h (.mupd (.int .i64) (.k x122_0) (.k x124_2) (.k (.v (.one (.bool true))))) fun _ h => R ⟨(upd (upd (upd t 122 x122_0) 123 x123_1) 124 x124_2), h⟩) := by kernel_rfl
def c22_67 : ACode := .region (o22_67.map (·.2)) [0, 1, 2, 3] []
theorem s22_67 (h : wS fs out s.h.nx o22_67 s.t ⟨s.h.o, s.h.nx + 4⟩ (Q .normal)) : wC fs out c22_67 s Q := wC_region rfl rfl h
def c22_61 : ACode := .seq c22_62 c22_67
theorem s22_61 (h : wC fs out c22_62 s fun e s1 => match e with | .normal => wC fs out c22_67 s1 Q | e => Q e s1) : wC fs out c22_61 s Q := wC_seq h
def c22_59 : ACode := .seq c22_60 c22_61
theorem s22_59 (h : wS fs out s.h.nx o22_60 s.t ⟨s.h.o, s.h.nx + 4⟩ fun s1 => wC fs out c22_61 s1 Q) : wC fs out c22_59 s Q := wC_seq (s22_60 h)
def c22_58 : ACode := .block 5 c22_59
theorem s22_58 (h : wC fs out c22_59 s fun e s1 => Q (if e = .exit 5 then .normal else e) s1) : wC fs out c22_58 s Q := wC_block h
def o22_68 : List (Nat × AOper) := (0, ⟨some 125, .bin .add (.t 96) (.k (.v (.one (.int .i64 1)))), none⟩) ::
   (1, ⟨some 96, .mov (.t 125), none⟩) ::
   []
theorem h22_68 : wS fs out b o22_68 t h R = (wV fs out (b + 0) noT h (.bin .add (.k (t 96)) (.k (.v (.one (.int .i64 1))))) fun x125_0 h => wV fs out (b + 1) noT h (.mov (.k x125_0)) fun x96_1 h => R ⟨(upd (upd t 125 x125_0) 96 x96_1), h⟩) := by kernel_rfl
def c22_68 : ACode := .region (o22_68.map (·.2)) [0, 1] []
theorem s22_68 (h : wS fs out s.h.nx o22_68 s.t ⟨s.h.o, s.h.nx + 2⟩ (Q .normal)) : wC fs out c22_68 s Q := wC_region rfl rfl h
def c22_57 : ACode := .seq c22_58 c22_68
theorem s22_57 (h : wC fs out c22_58 s fun e s1 => match e with | .normal => wC fs out c22_68 s1 Q | e => Q e s1) : wC fs out c22_57 s Q := wC_seq h
def c22_55 : ACode := .seq c22_56 c22_57
theorem s22_55 (h : onC (s.t 97) (wC fs out c22_57 (keepOnly [0, 1, 11, 94, 95, 96] s) Q) (Q (.exit 4) (keepOnly [0, 1, 11, 94, 95, 96] s))) : wC fs out c22_55 s Q := wC_seq (s22_56 h)
def c22_53 : ACode := .seq c22_54 c22_55
theorem s22_53 (h : wS fs out s.h.nx o22_54 s.t ⟨s.h.o, s.h.nx + 1⟩ fun s1 => wC fs out c22_55 s1 Q) : wC fs out c22_53 s Q := wC_seq (s22_54 h)
def c22_52 : ACode := .loop [0, 1, 11, 94, 95, 96] c22_53
theorem s22_52 (I : Nat → St → Prop) (n : Nat) (h0 : I n (keepOnly [0, 1, 11, 94, 95, 96] s)) (step : ∀ m s (Q' : AExit → St → Prop), I m s → (∀ m' s1, m' < m → I m' (keepOnly [0, 1, 11, 94, 95, 96] s1) → Q' .normal s1) → (∀ i s1, Q (.exit i) s1 → Q' (.exit i) s1) → (∀ s1, Q .ret s1 → Q' .ret s1) → wC fs out c22_53 s Q') : wC fs out c22_52 s Q := wC_loopQ I n h0 step
def c22_51 : ACode := .block 4 c22_52
theorem s22_51 (h : wC fs out c22_52 s fun e s1 => Q (if e = .exit 4 then .normal else e) s1) : wC fs out c22_51 s Q := wC_block h
def c22_49 : ACode := .seq c22_50 c22_51
theorem s22_49 (h : wS fs out s.h.nx o22_50 s.t ⟨s.h.o, s.h.nx + 3⟩ fun s1 => wC fs out c22_51 s1 Q) : wC fs out c22_49 s Q := wC_seq (s22_50 h)
def o22_70_1 : List (Nat × AOper) := (4, ⟨some 126, .mov (.t 130), none⟩) ::
   (5, ⟨some 131, .ext 0 (.t 126), none⟩) ::
   (6, ⟨some 132, .ext 1 (.t 126), none⟩) ::
   (7, ⟨some 14, .mov (.t 131), none⟩) ::
   (8, ⟨some 15, .mov (.t 132), none⟩) ::
   []
theorem h22_70_1 : wS fs out b o22_70_1 t h R = (wV fs out (b + 4) noT h (.mov (.k (t 130))) fun x126_0 h => wV fs out (b + 5) noT h (.ext 0 (.k x126_0)) fun x131_1 h => wV fs out (b + 6) noT h (.ext 1 (.k x126_0)) fun x132_2 h => wV fs out (b + 7) noT h (.mov (.k x131_1)) fun x14_3 h => wV fs out (b + 8) noT h (.mov (.k x132_2)) fun x15_4 h => R ⟨(upd (upd (upd (upd (upd t 126 x126_0) 131 x131_1) 132 x132_2) 14 x14_3) 15 x15_4), h⟩) := by kernel_rfl
def o22_70 : List (Nat × AOper) := (0, ⟨some 127, .mov (.t 0), none⟩) ::
   (1, ⟨some 128, .len (.t 127), none⟩) ::
   (2, ⟨some 129, .mov (.t 1), none⟩) ::
   (3, ⟨some 130, .call 32 [(.t 128), (.t 129)], none⟩) ::
   o22_70_1
theorem h22_70 : wS fs out b o22_70 t h R = (wV fs out (b + 0) noT h (.mov (.k (t 0))) fun x127_0 h => wV fs out (b + 1) noT h (.len (.k x127_0)) fun x128_1 h => wV fs out (b + 2) noT h (.mov (.k (t 1))) fun x129_2 h => wV fs out (b + 3) noT h (.call 32 [(.k x128_1), (.k x129_2)]) fun x130_3 h => wS fs out b o22_70_1 (upd (upd (upd (upd t 127 x127_0) 128 x128_1) 129 x129_2) 130 x130_3) h R) := by kernel_rfl
def c22_70 : ACode := .region (o22_70.map (·.2)) [0, 1, 2, 3, 4, 5, 6, 7, 8] []
theorem s22_70 (h : wS fs out s.h.nx o22_70 s.t ⟨s.h.o, s.h.nx + 9⟩ (Q .normal)) : wC fs out c22_70 s Q := wC_region rfl rfl h
def o22_72 : List (Nat × AOper) := (0, ⟨some 133, .mov (.t 15), none⟩) ::
   (1, ⟨some 6, .mov (.t 133), none⟩) ::
   []
theorem h22_72 : wS fs out b o22_72 t h R = (wV fs out (b + 0) noT h (.mov (.k (t 15))) fun x133_0 h => wV fs out (b + 1) noT h (.mov (.k x133_0)) fun x6_1 h => R ⟨(upd (upd t 133 x133_0) 6 x6_1), h⟩) := by kernel_rfl
def c22_72 : ACode := .region (o22_72.map (·.2)) [0, 1] []
theorem s22_72 (h : wS fs out s.h.nx o22_72 s.t ⟨s.h.o, s.h.nx + 2⟩ (Q .normal)) : wC fs out c22_72 s Q := wC_region rfl rfl h
def c22_71 : ACode := .seq c22_72 .ret
theorem s22_71 (h : wS fs out s.h.nx o22_72 s.t ⟨s.h.o, s.h.nx + 2⟩ fun s1 => wC fs out .ret s1 Q) : wC fs out c22_71 s Q := wC_seq (s22_72 h)
def c22_69 : ACode := .seq c22_70 c22_71
theorem s22_69 (h : wS fs out s.h.nx o22_70 s.t ⟨s.h.o, s.h.nx + 9⟩ fun s1 => wC fs out c22_71 s1 Q) : wC fs out c22_69 s Q := wC_seq (s22_70 h)
def c22_48 : ACode := .seq c22_49 c22_69
theorem s22_48 (h : wC fs out c22_49 s fun e s1 => match e with | .normal => wC fs out c22_69 s1 Q | e => Q e s1) : wC fs out c22_48 s Q := wC_seq h
def c22_46 : ACode := .seq c22_47 c22_48
theorem s22_46 (h : wS fs out s.h.nx o22_47 s.t ⟨s.h.o, s.h.nx + 2⟩ fun s1 => wC fs out c22_48 s1 Q) : wC fs out c22_46 s Q := wC_seq (s22_47 h)
def c22_27 : ACode := .seq c22_28 c22_46
theorem s22_27 (h : wC fs out c22_28 s fun e s1 => match e with | .normal => wC fs out c22_46 s1 Q | e => Q e s1) : wC fs out c22_27 s Q := wC_seq h
def c22_8 : ACode := .seq c22_9 c22_27
theorem s22_8 (h : wC fs out c22_9 s fun e s1 => match e with | .normal => wC fs out c22_27 s1 Q | e => Q e s1) : wC fs out c22_8 s Q := wC_seq h
def c22_2 : ACode := .seq c22_3 c22_8
theorem s22_2 (h : wC fs out c22_3 s fun e s1 => match e with | .normal => wC fs out c22_8 s1 Q | e => Q e s1) : wC fs out c22_2 s Q := wC_seq h
def c22_0 : ACode := .seq c22_1 c22_2
theorem s22_0 (h : wS fs out s.h.nx o22_1 s.t ⟨s.h.o, s.h.nx + 1⟩ fun s1 => wC fs out c22_2 s1 Q) : wC fs out c22_0 s Q := wC_seq (s22_1 h)
def a22 : AFunc := ⟨3, [6], none, c22_0⟩
theorem t22 : tell Try.prog Try.f22 [([0, 1, 2, 6], [], []), ([0, 1, 2, 29, 30, 31], [], []), ([0, 1, 2, 29, 30, 31], [], []), ([0, 1, 2, 6, 29, 30, 31], [], []), ([0, 1, 2, 40, 41, 42], [], []), ([0, 1, 2, 40, 41, 42], [], []), ([0, 1, 2, 6, 40, 41, 42], [], []), ([0, 1, 11, 94, 95, 96], [], []), ([0, 1, 11, 94, 95, 96], [], []), ([0, 1, 6, 11, 13, 94, 95, 96], [], [])] = some a22 := by kernel_rfl
theorem ok22 : FuncOk Try.prog 22 a22 := tell_ok Try.func22 t22

end Go.Proofs.Ythoicdnlcnppgaa.Fn
