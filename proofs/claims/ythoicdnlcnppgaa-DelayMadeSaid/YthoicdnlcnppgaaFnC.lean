/- Functions of the program, as the abstract machine's, and that they are. Conditions: none. -/
import Derived.Test.YthoicdnlcnppgaaAmCo
import Derived.Test.YthoicdnlcnppgaaAmEv
import Derived.Test.YthoicdnlcnppgaaProg
set_option linter.unusedVariables false
set_option linter.unusedSimpArgs false
namespace Go.Proofs.Ythoicdnlcnppgaa.Fn
open Go Go.Am
set_option maxRecDepth 100000
variable {fs : Nat → Option AFunc} {out : Rec} {s : St} {Q : AExit → St → Prop} {b : Nat} {t : Nat → T} {h : AH} {R : St → Prop}
/-- railplan/railplankeep.Same[int] -/
def o19_1 : List (Nat × AOper) := (0, ⟨some 4, .mov (.k (.v (.one (.bool false)))), none⟩) ::
   []
theorem h19_1 : wS fs out b o19_1 t h R = (wV fs out (b + 0) noT h (.mov (.k (.v (.one (.bool false))))) fun x4_0 h => R ⟨(upd t 4 x4_0), h⟩) := by kernel_rfl
def c19_1 : ACode := .region (o19_1.map (·.2)) [0] []
theorem s19_1 (h : wS fs out s.h.nx o19_1 s.t ⟨s.h.o, s.h.nx + 1⟩ (Q .normal)) : wC fs out c19_1 s Q := wC_region rfl rfl h
def o19_4 : List (Nat × AOper) := (0, ⟨some 6, .mov (.t 0), none⟩) ::
   (1, ⟨some 7, .len (.t 6), none⟩) ::
   (2, ⟨some 8, .mov (.t 1), none⟩) ::
   (3, ⟨some 9, .len (.t 8), none⟩) ::
   (4, ⟨some 10, .bin .neq (.t 7) (.t 9), none⟩) ::
   []
theorem h19_4 : wS fs out b o19_4 t h R = (wV fs out (b + 0) noT h (.mov (.k (t 0))) fun x6_0 h => wV fs out (b + 1) noT h (.len (.k x6_0)) fun x7_1 h => wV fs out (b + 2) noT h (.mov (.k (t 1))) fun x8_2 h => wV fs out (b + 3) noT h (.len (.k x8_2)) fun x9_3 h => wV fs out (b + 4) noT h (.bin .neq (.k x7_1) (.k x9_3)) fun x10_4 h => R ⟨(upd (upd (upd (upd (upd t 6 x6_0) 7 x7_1) 8 x8_2) 9 x9_3) 10 x10_4), h⟩) := by kernel_rfl
def c19_4 : ACode := .region (o19_4.map (·.2)) [0, 1, 2, 3, 4] []
theorem s19_4 (h : wS fs out s.h.nx o19_4 s.t ⟨s.h.o, s.h.nx + 5⟩ (Q .normal)) : wC fs out c19_4 s Q := wC_region rfl rfl h
def o19_7 : List (Nat × AOper) := (0, ⟨some 4, .mov (.k (.v (.one (.bool false)))), none⟩) ::
   []
theorem h19_7 : wS fs out b o19_7 t h R = (wV fs out (b + 0) noT h (.mov (.k (.v (.one (.bool false))))) fun x4_0 h => R ⟨(upd t 4 x4_0), h⟩) := by kernel_rfl
def c19_7 : ACode := .region (o19_7.map (·.2)) [0] []
theorem s19_7 (h : wS fs out s.h.nx o19_7 s.t ⟨s.h.o, s.h.nx + 1⟩ (Q .normal)) : wC fs out c19_7 s Q := wC_region rfl rfl h
def c19_6 : ACode := .seq c19_7 .ret
theorem s19_6 (h : wS fs out s.h.nx o19_7 s.t ⟨s.h.o, s.h.nx + 1⟩ fun s1 => wC fs out .ret s1 Q) : wC fs out c19_6 s Q := wC_seq (s19_7 h)
def c19_5 : ACode := .cond (.t 10) c19_6 .skip [0, 1, 4]
theorem s19_5 (h : onC (s.t 10) (wC fs out c19_6 s fun e s1 => Q e (keepOnly [0, 1, 4] s1)) (Q .normal (keepOnly [0, 1, 4] s))) : wC fs out c19_5 s Q := wC_condC (by first | exact h | (simp only [wC_skip, wC_exit, wC_ret]; exact h))
def c19_3 : ACode := .seq c19_4 c19_5
theorem s19_3 (h : wS fs out s.h.nx o19_4 s.t ⟨s.h.o, s.h.nx + 5⟩ fun s1 => wC fs out c19_5 s1 Q) : wC fs out c19_3 s Q := wC_seq (s19_4 h)
def o19_10 : List (Nat × AOper) := (0, ⟨some 11, .mov (.t 0), none⟩) ::
   (1, ⟨some 12, .len (.t 11), none⟩) ::
   (2, ⟨some 13, .mov (.k (.v (.one (.int .i64 0)))), none⟩) ::
   []
theorem h19_10 : wS fs out b o19_10 t h R = (wV fs out (b + 0) noT h (.mov (.k (t 0))) fun x11_0 h => wV fs out (b + 1) noT h (.len (.k x11_0)) fun x12_1 h => wV fs out (b + 2) noT h (.mov (.k (.v (.one (.int .i64 0))))) fun x13_2 h => R ⟨(upd (upd (upd t 11 x11_0) 12 x12_1) 13 x13_2), h⟩) := by kernel_rfl
def c19_10 : ACode := .region (o19_10.map (·.2)) [0, 1, 2] []
theorem s19_10 (h : wS fs out s.h.nx o19_10 s.t ⟨s.h.o, s.h.nx + 3⟩ (Q .normal)) : wC fs out c19_10 s Q := wC_region rfl rfl h
def o19_14 : List (Nat × AOper) := (0, ⟨some 14, .bin .lss (.t 13) (.t 12), none⟩) ::
   []
theorem h19_14 : wS fs out b o19_14 t h R = (wV fs out (b + 0) noT h (.bin .lss (.k (t 13)) (.k (t 12))) fun x14_0 h => R ⟨(upd t 14 x14_0), h⟩) := by kernel_rfl
def c19_14 : ACode := .region (o19_14.map (·.2)) [0] []
theorem s19_14 (h : wS fs out s.h.nx o19_14 s.t ⟨s.h.o, s.h.nx + 1⟩ (Q .normal)) : wC fs out c19_14 s Q := wC_region rfl rfl h
def c19_16 : ACode := .cond (.t 14) .skip (.exit 0) [0, 1, 12, 13]
theorem s19_16 (h : onC (s.t 14) (Q .normal (keepOnly [0, 1, 12, 13] s)) (Q (.exit 0) (keepOnly [0, 1, 12, 13] s))) : wC fs out c19_16 s Q := wC_condC (by first | exact h | (simp only [wC_skip, wC_exit, wC_ret]; exact h))
def o19_20 : List (Nat × AOper) := (0, ⟨some 15, .mov (.t 13), none⟩) ::
   (1, ⟨some 5, .mov (.t 15), none⟩) ::
   []
theorem h19_20 : wS fs out b o19_20 t h R = (wV fs out (b + 0) noT h (.mov (.k (t 13))) fun x15_0 h => wV fs out (b + 1) noT h (.mov (.k x15_0)) fun x5_1 h => R ⟨(upd (upd t 15 x15_0) 5 x5_1), h⟩) := by kernel_rfl
def c19_20 : ACode := .region (o19_20.map (·.2)) [0, 1] []
theorem s19_20 (h : wS fs out s.h.nx o19_20 s.t ⟨s.h.o, s.h.nx + 2⟩ (Q .normal)) : wC fs out c19_20 s Q := wC_region rfl rfl h
def o19_22 : List (Nat × AOper) := (0, ⟨some 16, .mov (.t 0), none⟩) ::
   (1, ⟨some 17, .mov (.t 5), none⟩) ::
   (2, ⟨some 18, .iadr 1 (.t 16) (.t 17), none⟩) ::
   (3, ⟨some 19, .load none (.t 18), none⟩) ::
   (4, ⟨some 20, .mov (.t 1), none⟩) ::
   (5, ⟨some 21, .mov (.t 5), none⟩) ::
   (6, ⟨some 22, .iadr 1 (.t 20) (.t 21), none⟩) ::
   (7, ⟨some 23, .load none (.t 22), none⟩) ::
   (8, ⟨some 24, .bin .neq (.t 19) (.t 23), none⟩) ::
   []
theorem h19_22 : wS fs out b o19_22 t h R = (wV fs out (b + 0) noT h (.mov (.k (t 0))) fun x16_0 h => wV fs out (b + 1) noT h (.mov (.k (t 5))) fun x17_1 h => wV fs out (b + 2) noT h (.iadr 1 (.k x16_0) (.k x17_1)) fun x18_2 h => wV fs out (b + 3) noT h (.load none (.k x18_2)) fun x19_3 h => wV fs out (b + 4) noT h (.mov (.k (t 1))) fun x20_4 h => wV fs out (b + 5) noT h (.mov (.k (t 5))) fun x21_5 h => wV fs out (b + 6) noT h (.iadr 1 (.k x20_4) (.k x21_5)) fun x22_6 h => wV fs out (b + 7) noT h (.load none (.k x22_6)) fun x23_7 h => wV fs out (b + 8) noT h (.bin .neq (.k x19_3) (.k x23_7)) fun x24_8 h => R ⟨(upd (upd (upd (upd (upd (upd (upd (upd (upd t 16 x16_0) 17 x17_1) 18 x18_2) 19 x19_3) 20 x20_4) 21 x21_5) 22 x22_6) 23 x23_7) 24 x24_8), h⟩) := by kernel_rfl
def c19_22 : ACode := .region (o19_22.map (·.2)) [0, 1, 2, 3, 4, 5, 6, 7, 8] []
theorem s19_22 (h : wS fs out s.h.nx o19_22 s.t ⟨s.h.o, s.h.nx + 9⟩ (Q .normal)) : wC fs out c19_22 s Q := wC_region rfl rfl h
def o19_25 : List (Nat × AOper) := (0, ⟨some 4, .mov (.k (.v (.one (.bool false)))), none⟩) ::
   []
theorem h19_25 : wS fs out b o19_25 t h R = (wV fs out (b + 0) noT h (.mov (.k (.v (.one (.bool false))))) fun x4_0 h => R ⟨(upd t 4 x4_0), h⟩) := by kernel_rfl
def c19_25 : ACode := .region (o19_25.map (·.2)) [0] []
theorem s19_25 (h : wS fs out s.h.nx o19_25 s.t ⟨s.h.o, s.h.nx + 1⟩ (Q .normal)) : wC fs out c19_25 s Q := wC_region rfl rfl h
def c19_24 : ACode := .seq c19_25 .ret
theorem s19_24 (h : wS fs out s.h.nx o19_25 s.t ⟨s.h.o, s.h.nx + 1⟩ fun s1 => wC fs out .ret s1 Q) : wC fs out c19_24 s Q := wC_seq (s19_25 h)
def c19_23 : ACode := .cond (.t 24) c19_24 .skip [0, 1, 4, 12, 13]
theorem s19_23 (h : onC (s.t 24) (wC fs out c19_24 s fun e s1 => Q e (keepOnly [0, 1, 4, 12, 13] s1)) (Q .normal (keepOnly [0, 1, 4, 12, 13] s))) : wC fs out c19_23 s Q := wC_condC (by first | exact h | (simp only [wC_skip, wC_exit, wC_ret]; exact h))
def c19_21 : ACode := .seq c19_22 c19_23
theorem s19_21 (h : wS fs out s.h.nx o19_22 s.t ⟨s.h.o, s.h.nx + 9⟩ fun s1 => wC fs out c19_23 s1 Q) : wC fs out c19_21 s Q := wC_seq (s19_22 h)
def c19_19 : ACode := .seq c19_20 c19_21
theorem s19_19 (h : wS fs out s.h.nx o19_20 s.t ⟨s.h.o, s.h.nx + 2⟩ fun s1 => wC fs out c19_21 s1 Q) : wC fs out c19_19 s Q := wC_seq (s19_20 h)
def c19_18 : ACode := .block 1 c19_19
theorem s19_18 (h : wC fs out c19_19 s fun e s1 => Q (if e = .exit 1 then .normal else e) s1) : wC fs out c19_18 s Q := wC_block h
def o19_26 : List (Nat × AOper) := (0, ⟨some 25, .bin .add (.t 13) (.k (.v (.one (.int .i64 1)))), none⟩) ::
   (1, ⟨some 13, .mov (.t 25), none⟩) ::
   []
theorem h19_26 : wS fs out b o19_26 t h R = (wV fs out (b + 0) noT h (.bin .add (.k (t 13)) (.k (.v (.one (.int .i64 1))))) fun x25_0 h => wV fs out (b + 1) noT h (.mov (.k x25_0)) fun x13_1 h => R ⟨(upd (upd t 25 x25_0) 13 x13_1), h⟩) := by kernel_rfl
def c19_26 : ACode := .region (o19_26.map (·.2)) [0, 1] []
theorem s19_26 (h : wS fs out s.h.nx o19_26 s.t ⟨s.h.o, s.h.nx + 2⟩ (Q .normal)) : wC fs out c19_26 s Q := wC_region rfl rfl h
def c19_17 : ACode := .seq c19_18 c19_26
theorem s19_17 (h : wC fs out c19_18 s fun e s1 => match e with | .normal => wC fs out c19_26 s1 Q | e => Q e s1) : wC fs out c19_17 s Q := wC_seq h
def c19_15 : ACode := .seq c19_16 c19_17
theorem s19_15 (h : onC (s.t 14) (wC fs out c19_17 (keepOnly [0, 1, 12, 13] s) Q) (Q (.exit 0) (keepOnly [0, 1, 12, 13] s))) : wC fs out c19_15 s Q := wC_seq (s19_16 h)
def c19_13 : ACode := .seq c19_14 c19_15
theorem s19_13 (h : wS fs out s.h.nx o19_14 s.t ⟨s.h.o, s.h.nx + 1⟩ fun s1 => wC fs out c19_15 s1 Q) : wC fs out c19_13 s Q := wC_seq (s19_14 h)
def c19_12 : ACode := .loop [0, 1, 12, 13] c19_13
theorem s19_12 (I : Nat → St → Prop) (n : Nat) (h0 : I n (keepOnly [0, 1, 12, 13] s)) (step : ∀ m s (Q' : AExit → St → Prop), I m s → (∀ m' s1, m' < m → I m' (keepOnly [0, 1, 12, 13] s1) → Q' .normal s1) → (∀ i s1, Q (.exit i) s1 → Q' (.exit i) s1) → (∀ s1, Q .ret s1 → Q' .ret s1) → wC fs out c19_13 s Q') : wC fs out c19_12 s Q := wC_loopQ I n h0 step
def c19_11 : ACode := .block 0 c19_12
theorem s19_11 (h : wC fs out c19_12 s fun e s1 => Q (if e = .exit 0 then .normal else e) s1) : wC fs out c19_11 s Q := wC_block h
def c19_9 : ACode := .seq c19_10 c19_11
theorem s19_9 (h : wS fs out s.h.nx o19_10 s.t ⟨s.h.o, s.h.nx + 3⟩ fun s1 => wC fs out c19_11 s1 Q) : wC fs out c19_9 s Q := wC_seq (s19_10 h)
def o19_28 : List (Nat × AOper) := (0, ⟨some 4, .mov (.k (.v (.one (.bool true)))), none⟩) ::
   []
theorem h19_28 : wS fs out b o19_28 t h R = (wV fs out (b + 0) noT h (.mov (.k (.v (.one (.bool true))))) fun x4_0 h => R ⟨(upd t 4 x4_0), h⟩) := by kernel_rfl
def c19_28 : ACode := .region (o19_28.map (·.2)) [0] []
theorem s19_28 (h : wS fs out s.h.nx o19_28 s.t ⟨s.h.o, s.h.nx + 1⟩ (Q .normal)) : wC fs out c19_28 s Q := wC_region rfl rfl h
def c19_27 : ACode := .seq c19_28 .ret
theorem s19_27 (h : wS fs out s.h.nx o19_28 s.t ⟨s.h.o, s.h.nx + 1⟩ fun s1 => wC fs out .ret s1 Q) : wC fs out c19_27 s Q := wC_seq (s19_28 h)
def c19_8 : ACode := .seq c19_9 c19_27
theorem s19_8 (h : wC fs out c19_9 s fun e s1 => match e with | .normal => wC fs out c19_27 s1 Q | e => Q e s1) : wC fs out c19_8 s Q := wC_seq h
def c19_2 : ACode := .seq c19_3 c19_8
theorem s19_2 (h : wC fs out c19_3 s fun e s1 => match e with | .normal => wC fs out c19_8 s1 Q | e => Q e s1) : wC fs out c19_2 s Q := wC_seq h
def c19_0 : ACode := .seq c19_1 c19_2
theorem s19_0 (h : wS fs out s.h.nx o19_1 s.t ⟨s.h.o, s.h.nx + 1⟩ fun s1 => wC fs out c19_2 s1 Q) : wC fs out c19_0 s Q := wC_seq (s19_1 h)
def a19 : AFunc := ⟨2, [4], none, c19_0⟩
theorem t19 : tell Try.prog Try.f19 [([0, 1, 4], [], []), ([0, 1, 12, 13], [], []), ([0, 1, 12, 13], [], []), ([0, 1, 2, 3, 4, 5, 6, 7, 8], [], [0, 0, 3, 7, 0, 0, 48, 112, 255]), ([0, 1, 4, 12, 13], [], [])] = some a19 := by kernel_rfl
theorem ok19 : FuncOk Try.prog 19 a19 := tell_ok Try.func19 t19

/-- railplan/delay.Cause -/
def o20_1 : List (Nat × AOper) := (0, ⟨some 8, .mov (.k (.v (.one .nils))), none⟩) ::
   (1, ⟨some 9, .mov (.k (.v (.one (.int .i64 0)))), none⟩) ::
   []
theorem h20_1 : wS fs out b o20_1 t h R = (wV fs out (b + 0) noT h (.mov (.k (.v (.one .nils)))) fun x8_0 h => wV fs out (b + 1) noT h (.mov (.k (.v (.one (.int .i64 0))))) fun x9_1 h => R ⟨(upd (upd t 8 x8_0) 9 x9_1), h⟩) := by kernel_rfl
def c20_1 : ACode := .region (o20_1.map (·.2)) [0, 1] []
theorem s20_1 (h : wS fs out s.h.nx o20_1 s.t ⟨s.h.o, s.h.nx + 2⟩ (Q .normal)) : wC fs out c20_1 s Q := wC_region rfl rfl h
def o20_4_1 : List (Nat × AOper) := (4, ⟨some 19, .not (.t 18), none⟩) ::
   []
theorem h20_4_1 : wS fs out b o20_4_1 t h R = (wV fs out (b + 4) noT h (.not (.k (t 18))) fun x19_0 h => R ⟨(upd t 19 x19_0), h⟩) := by kernel_rfl
def o20_4 : List (Nat × AOper) := (0, ⟨some 15, .mov (.t 0), none⟩) ::
   (1, ⟨some 16, .mov (.t 1), none⟩) ::
   (2, ⟨some 17, .mov (.t 2), none⟩) ::
   (3, ⟨some 18, .call 22 [(.t 15), (.t 16), (.t 17)], none⟩) ::
   o20_4_1
theorem h20_4 : wS fs out b o20_4 t h R = (wV fs out (b + 0) noT h (.mov (.k (t 0))) fun x15_0 h => wV fs out (b + 1) noT h (.mov (.k (t 1))) fun x16_1 h => wV fs out (b + 2) noT h (.mov (.k (t 2))) fun x17_2 h => wV fs out (b + 3) noT h (.call 22 [(.k x15_0), (.k x16_1), (.k x17_2)]) fun x18_3 h => wS fs out b o20_4_1 (upd (upd (upd (upd t 15 x15_0) 16 x16_1) 17 x17_2) 18 x18_3) h R) := by kernel_rfl
def c20_4 : ACode := .region (o20_4.map (·.2)) [0, 1, 2, 3, 4] []
theorem s20_4 (h : wS fs out s.h.nx o20_4 s.t ⟨s.h.o, s.h.nx + 5⟩ (Q .normal)) : wC fs out c20_4 s Q := wC_region rfl rfl h
def o20_7 : List (Nat × AOper) := (0, ⟨some 8, .mov (.k (.v (.one .nils))), none⟩) ::
   (1, ⟨some 9, .mov (.k (.v (.one (.int .i64 1)))), none⟩) ::
   []
theorem h20_7 : wS fs out b o20_7 t h R = (wV fs out (b + 0) noT h (.mov (.k (.v (.one .nils)))) fun x8_0 h => wV fs out (b + 1) noT h (.mov (.k (.v (.one (.int .i64 1))))) fun x9_1 h => R ⟨(upd (upd t 8 x8_0) 9 x9_1), h⟩) := by kernel_rfl
def c20_7 : ACode := .region (o20_7.map (·.2)) [0, 1] []
theorem s20_7 (h : wS fs out s.h.nx o20_7 s.t ⟨s.h.o, s.h.nx + 2⟩ (Q .normal)) : wC fs out c20_7 s Q := wC_region rfl rfl h
def c20_6 : ACode := .seq c20_7 .ret
theorem s20_6 (h : wS fs out s.h.nx o20_7 s.t ⟨s.h.o, s.h.nx + 2⟩ fun s1 => wC fs out .ret s1 Q) : wC fs out c20_6 s Q := wC_seq (s20_7 h)
def c20_5 : ACode := .cond (.t 19) c20_6 .skip [0, 1, 2, 3, 8, 9]
theorem s20_5 (h : onC (s.t 19) (wC fs out c20_6 s fun e s1 => Q e (keepOnly [0, 1, 2, 3, 8, 9] s1)) (Q .normal (keepOnly [0, 1, 2, 3, 8, 9] s))) : wC fs out c20_5 s Q := wC_condC (by first | exact h | (simp only [wC_skip, wC_exit, wC_ret]; exact h))
def c20_3 : ACode := .seq c20_4 c20_5
theorem s20_3 (h : wS fs out s.h.nx o20_4 s.t ⟨s.h.o, s.h.nx + 5⟩ fun s1 => wC fs out c20_5 s1 Q) : wC fs out c20_3 s Q := wC_seq (s20_4 h)
def o20_10_2 : List (Nat × AOper) := (7, ⟨some 27, .pick (.t 22) (.k (.v (.one (.bool true)))) (.t 26), none⟩) ::
   []
theorem h20_10_2 : wS fs out b o20_10_2 t h R = (wV fs out (b + 7) noT h (.pick (.k (t 22)) (.k (.v (.one (.bool true)))) (.k (t 26))) fun x27_0 h => R ⟨(upd t 27 x27_0), h⟩) := by kernel_rfl
def o20_10_1g : List (Nat × AOper) := (3, ⟨some 23, .mov (.t 3), none⟩) ::
   (4, ⟨some 24, .mov (.t 0), none⟩) ::
   (5, ⟨some 25, .len (.t 24), none⟩) ::
   (6, ⟨some 26, .bin .geq (.t 23) (.t 25), none⟩) ::
   []
theorem h20_10_1g : wS fs out b o20_10_1g t h R = (wV fs out (b + 3) noT h (.mov (.k (t 3))) fun x23_0 h => wV fs out (b + 4) noT h (.mov (.k (t 0))) fun x24_1 h => wV fs out (b + 5) noT h (.len (.k x24_1)) fun x25_2 h => wV fs out (b + 6) noT h (.bin .geq (.k x23_0) (.k x25_2)) fun x26_3 h => R ⟨(upd (upd (upd (upd t 23 x23_0) 24 x24_1) 25 x25_2) 26 x26_3), h⟩) := by kernel_rfl
def o20_10_1 : List (Nat × AOper) := grp 22 false o20_10_1g o20_10_2
theorem w20_10_1 : wS fs out b o20_10_1 t h R = onG (t 22) false (wS fs out b o20_10_1g (upd t 22 (.v (.one (.bool false)))) h fun s => wS fs out b o20_10_2 s.t s.h R) (wS fs out b o20_10_2 (upd (upd (upd (upd (upd t 22 (.v (.one (.bool true)))) 23 (.tup [])) 24 (.tup [])) 25 (.tup [])) 26 (.tup [])) h R) (wS fs out b o20_10_2 (upd (upd (upd (upd t 23 (.tup [])) 24 (.tup [])) 25 (.tup [])) 26 (.tup [])) h R) := wS_grpE rfl
def o20_10 : List (Nat × AOper) := (0, ⟨some 20, .mov (.t 3), none⟩) ::
   (1, ⟨some 21, .bin .lss (.t 20) (.k (.v (.one (.int .i64 0)))), none⟩) ::
   (2, ⟨some 22, .mov (.t 21), none⟩) ::
   o20_10_1
theorem h20_10 : wS fs out b o20_10 t h R = (wV fs out (b + 0) noT h (.mov (.k (t 3))) fun x20_0 h => wV fs out (b + 1) noT h (.bin .lss (.k x20_0) (.k (.v (.one (.int .i64 0))))) fun x21_1 h => wV fs out (b + 2) noT h (.mov (.k x21_1)) fun x22_2 h => wS fs out b o20_10_1 (upd (upd (upd t 20 x20_0) 21 x21_1) 22 x22_2) h R) := by kernel_rfl
def c20_10 : ACode := .region (o20_10.map (·.2)) [0, 1, 2, 3, 4, 5, 6, 7] []
theorem s20_10 (h : wS fs out s.h.nx o20_10 s.t ⟨s.h.o, s.h.nx + 8⟩ (Q .normal)) : wC fs out c20_10 s Q := wC_region rfl rfl h
def o20_13 : List (Nat × AOper) := (0, ⟨some 8, .mov (.k (.v (.one .nils))), none⟩) ::
   (1, ⟨some 9, .mov (.k (.v (.one (.int .i64 4)))), none⟩) ::
   []
theorem h20_13 : wS fs out b o20_13 t h R = (wV fs out (b + 0) noT h (.mov (.k (.v (.one .nils)))) fun x8_0 h => wV fs out (b + 1) noT h (.mov (.k (.v (.one (.int .i64 4))))) fun x9_1 h => R ⟨(upd (upd t 8 x8_0) 9 x9_1), h⟩) := by kernel_rfl
def c20_13 : ACode := .region (o20_13.map (·.2)) [0, 1] []
theorem s20_13 (h : wS fs out s.h.nx o20_13 s.t ⟨s.h.o, s.h.nx + 2⟩ (Q .normal)) : wC fs out c20_13 s Q := wC_region rfl rfl h
def c20_12 : ACode := .seq c20_13 .ret
theorem s20_12 (h : wS fs out s.h.nx o20_13 s.t ⟨s.h.o, s.h.nx + 2⟩ fun s1 => wC fs out .ret s1 Q) : wC fs out c20_12 s Q := wC_seq (s20_13 h)
def c20_11 : ACode := .cond (.t 27) c20_12 .skip [0, 1, 2, 3, 8, 9]
theorem s20_11 (h : onC (s.t 27) (wC fs out c20_12 s fun e s1 => Q e (keepOnly [0, 1, 2, 3, 8, 9] s1)) (Q .normal (keepOnly [0, 1, 2, 3, 8, 9] s))) : wC fs out c20_11 s Q := wC_condC (by first | exact h | (simp only [wC_skip, wC_exit, wC_ret]; exact h))
def c20_9 : ACode := .seq c20_10 c20_11
theorem s20_9 (h : wS fs out s.h.nx o20_10 s.t ⟨s.h.o, s.h.nx + 8⟩ fun s1 => wC fs out c20_11 s1 Q) : wC fs out c20_9 s Q := wC_seq (s20_10 h)
def o20_15_1 : List (Nat × AOper) := (4, ⟨some 10, .new 58 [.nils, .nils, .nils], none⟩) ::
   (5, ⟨none, .store 3 (.t 10) (.t 31), none⟩) ::
   []
theorem h20_15_1 : wS fs out b o20_15_1 t h R = (wV fs out (b + 4) noT h (.new 58 [.nils, .nils, .nils]) fun x10_0 h => wV fs out (b + 5) noT h (.store 3 (.k x10_0) (.k (t 31))) fun _ h => R ⟨(upd t 10 x10_0), h⟩) := by kernel_rfl
def o20_15 : List (Nat × AOper) := (0, ⟨some 28, .mov (.t 0), none⟩) ::
   (1, ⟨some 29, .mov (.t 1), none⟩) ::
   (2, ⟨some 30, .mov (.t 2), none⟩) ::
   (3, ⟨some 31, .call 28 [(.t 28), (.t 29), (.t 30)], none⟩) ::
   o20_15_1
theorem h20_15 : wS fs out b o20_15 t h R = (wV fs out (b + 0) noT h (.mov (.k (t 0))) fun x28_0 h => wV fs out (b + 1) noT h (.mov (.k (t 1))) fun x29_1 h => wV fs out (b + 2) noT h (.mov (.k (t 2))) fun x30_2 h => wV fs out (b + 3) noT h (.call 28 [(.k x28_0), (.k x29_1), (.k x30_2)]) fun x31_3 h => wS fs out b o20_15_1 (upd (upd (upd (upd t 28 x28_0) 29 x29_1) 30 x30_2) 31 x31_3) h R) := by kernel_rfl
def c20_15 : ACode := .region (o20_15.map (·.2)) [0, 1, 2, 3, 4, 5] []
theorem s20_15 (h : wS fs out s.h.nx o20_15 s.t ⟨s.h.o, s.h.nx + 6⟩ (Q .normal)) : wC fs out c20_15 s Q := wC_region rfl rfl h
def o20_17 : List (Nat × AOper) := (0, ⟨some 11, .mov (.k (.v (.one .nils))), none⟩) ::
   []
theorem h20_17 : wS fs out b o20_17 t h R = (wV fs out (b + 0) noT h (.mov (.k (.v (.one .nils)))) fun x11_0 h => R ⟨(upd t 11 x11_0), h⟩) := by kernel_rfl
def c20_17 : ACode := .region (o20_17.map (·.2)) [0] []
theorem s20_17 (h : wS fs out s.h.nx o20_17 s.t ⟨s.h.o, s.h.nx + 1⟩ (Q .normal)) : wC fs out c20_17 s Q := wC_region rfl rfl h
def o20_20 : List (Nat × AOper) := (0, ⟨some 12, .mov (.k (.v (.one (.bool true)))), none⟩) ::
   []
theorem h20_20 : wS fs out b o20_20 t h R = (wV fs out (b + 0) noT h (.mov (.k (.v (.one (.bool true))))) fun x12_0 h => R ⟨(upd t 12 x12_0), h⟩) := by kernel_rfl
def c20_20 : ACode := .region (o20_20.map (·.2)) [0] []
theorem s20_20 (h : wS fs out s.h.nx o20_20 s.t ⟨s.h.o, s.h.nx + 1⟩ (Q .normal)) : wC fs out c20_20 s Q := wC_region rfl rfl h
def o20_25 : List (Nat × AOper) := (0, ⟨some 32, .mov (.t 12), none⟩) ::
   []
theorem h20_25 : wS fs out b o20_25 t h R = (wV fs out (b + 0) noT h (.mov (.k (t 12))) fun x32_0 h => R ⟨(upd t 32 x32_0), h⟩) := by kernel_rfl
def c20_25 : ACode := .region (o20_25.map (·.2)) [0] []
theorem s20_25 (h : wS fs out s.h.nx o20_25 s.t ⟨s.h.o, s.h.nx + 1⟩ (Q .normal)) : wC fs out c20_25 s Q := wC_region rfl rfl h
def c20_26 : ACode := .cond (.t 32) .skip (.exit 0) [0, 1, 3, 10, 11]
theorem s20_26 (h : onC (s.t 32) (Q .normal (keepOnly [0, 1, 3, 10, 11] s)) (Q (.exit 0) (keepOnly [0, 1, 3, 10, 11] s))) : wC fs out c20_26 s Q := wC_condC (by first | exact h | (simp only [wC_skip, wC_exit, wC_ret]; exact h))
def c20_24 : ACode := .seq c20_25 c20_26
theorem s20_24 (h : wS fs out s.h.nx o20_25 s.t ⟨s.h.o, s.h.nx + 1⟩ fun s1 => wC fs out c20_26 s1 Q) : wC fs out c20_24 s Q := wC_seq (s20_25 h)
def o20_29 : List (Nat × AOper) := (0, ⟨some 12, .mov (.k (.v (.one (.bool false)))), none⟩) ::
   []
theorem h20_29 : wS fs out b o20_29 t h R = (wV fs out (b + 0) noT h (.mov (.k (.v (.one (.bool false))))) fun x12_0 h => R ⟨(upd t 12 x12_0), h⟩) := by kernel_rfl
def c20_29 : ACode := .region (o20_29.map (·.2)) [0] []
theorem s20_29 (h : wS fs out s.h.nx o20_29 s.t ⟨s.h.o, s.h.nx + 1⟩ (Q .normal)) : wC fs out c20_29 s Q := wC_region rfl rfl h
def o20_32_2 : List (Nat × AOper) := (17, ⟨some 50, .pick (.t 38) (.t 49) (.k (.v (.one (.bool false)))), none⟩) ::
   []
theorem h20_32_2 : wS fs out b o20_32_2 t h R = (wV fs out (b + 17) noT h (.pick (.k (t 38)) (.k (t 49)) (.k (.v (.one (.bool false))))) fun x50_0 h => R ⟨(upd t 50 x50_0), h⟩) := by kernel_rfl
def o20_32_1g_1 : List (Nat × AOper) := (16, ⟨some 49, .bin .leq (.t 43) (.t 48), none⟩) ::
   []
theorem h20_32_1g_1 : wS fs out b o20_32_1g_1 t h R = (wV fs out (b + 16) noT h (.bin .leq (.k (t 43)) (.k (t 48))) fun x49_0 h => R ⟨(upd t 49 x49_0), h⟩) := by kernel_rfl
def o20_32_1g : List (Nat × AOper) := (6, ⟨some 39, .fadr 0 (.t 10), none⟩) ::
   (7, ⟨some 40, .load none (.t 39), none⟩) ::
   (8, ⟨some 41, .mov (.t 3), none⟩) ::
   (9, ⟨some 42, .iadr 1 (.t 40) (.t 41), none⟩) ::
   (10, ⟨some 43, .load none (.t 42), none⟩) ::
   (11, ⟨some 44, .mov (.t 0), none⟩) ::
   (12, ⟨some 45, .mov (.t 3), none⟩) ::
   (13, ⟨some 46, .iadr 2 (.t 44) (.t 45), none⟩) ::
   (14, ⟨some 47, .fadr 0 (.t 46), none⟩) ::
   (15, ⟨some 48, .load none (.t 47), none⟩) ::
   o20_32_1g_1
theorem h20_32_1g : wS fs out b o20_32_1g t h R = (wV fs out (b + 6) noT h (.fadr 0 (.k (t 10))) fun x39_0 h => wV fs out (b + 7) noT h (.load none (.k x39_0)) fun x40_1 h => wV fs out (b + 8) noT h (.mov (.k (t 3))) fun x41_2 h => wV fs out (b + 9) noT h (.iadr 1 (.k x40_1) (.k x41_2)) fun x42_3 h => wV fs out (b + 10) noT h (.load none (.k x42_3)) fun x43_4 h => wV fs out (b + 11) noT h (.mov (.k (t 0))) fun x44_5 h => wV fs out (b + 12) noT h (.mov (.k (t 3))) fun x45_6 h => wV fs out (b + 13) noT h (.iadr 2 (.k x44_5) (.k x45_6)) fun x46_7 h => wV fs out (b + 14) noT h (.fadr 0 (.k x46_7)) fun x47_8 h => wV fs out (b + 15) noT h (.load none (.k x47_8)) fun x48_9 h => wS fs out b o20_32_1g_1 (upd (upd (upd (upd (upd (upd (upd (upd (upd (upd t 39 x39_0) 40 x40_1) 41 x41_2) 42 x42_3) 43 x43_4) 44 x44_5) 45 x45_6) 46 x46_7) 47 x47_8) 48 x48_9) h R) := by kernel_rfl
def o20_32_1 : List (Nat × AOper) := grp 38 true o20_32_1g o20_32_2
theorem w20_32_1 : wS fs out b o20_32_1 t h R = onG (t 38) true (wS fs out b o20_32_1g (upd t 38 (.v (.one (.bool true)))) h fun s => wS fs out b o20_32_2 s.t s.h R) (wS fs out b o20_32_2 (upd (upd (upd (upd (upd (upd (upd (upd (upd (upd (upd (upd t 38 (.v (.one (.bool false)))) 39 (.tup [])) 40 (.tup [])) 41 (.tup [])) 42 (.tup [])) 43 (.tup [])) 44 (.tup [])) 45 (.tup [])) 46 (.tup [])) 47 (.tup [])) 48 (.tup [])) 49 (.tup [])) h R) (wS fs out b o20_32_2 (upd (upd (upd (upd (upd (upd (upd (upd (upd (upd (upd t 39 (.tup [])) 40 (.tup [])) 41 (.tup [])) 42 (.tup [])) 43 (.tup [])) 44 (.tup [])) 45 (.tup [])) 46 (.tup [])) 47 (.tup [])) 48 (.tup [])) 49 (.tup [])) h R) := wS_grpE rfl
def o20_32 : List (Nat × AOper) := (0, ⟨some 33, .mov (.t 0), none⟩) ::
   (1, ⟨some 34, .mov (.t 3), none⟩) ::
   (2, ⟨some 35, .iadr 2 (.t 33) (.t 34), none⟩) ::
   (3, ⟨some 36, .fadr 1 (.t 35), none⟩) ::
   (4, ⟨some 37, .load none (.t 36), none⟩) ::
   (5, ⟨some 38, .mov (.t 37), none⟩) ::
   o20_32_1
theorem h20_32 : wS fs out b o20_32 t h R = (wV fs out (b + 0) noT h (.mov (.k (t 0))) fun x33_0 h => wV fs out (b + 1) noT h (.mov (.k (t 3))) fun x34_1 h => wV fs out (b + 2) noT h (.iadr 2 (.k x33_0) (.k x34_1)) fun x35_2 h => wV fs out (b + 3) noT h (.fadr 1 (.k x35_2)) fun x36_3 h => wV fs out (b + 4) noT h (.load none (.k x36_3)) fun x37_4 h => wV fs out (b + 5) noT h (.mov (.k x37_4)) fun x38_5 h => wS fs out b o20_32_1 (upd (upd (upd (upd (upd (upd t 33 x33_0) 34 x34_1) 35 x35_2) 36 x36_3) 37 x37_4) 38 x38_5) h R) := by kernel_rfl
def c20_32 : ACode := .region (o20_32.map (·.2)) [0, 1, 2, 3, 4, 5, 6, 7, 8, 9, 10, 11, 12, 13, 14, 15, 16, 17] []
theorem s20_32 (h : wS fs out s.h.nx o20_32 s.t ⟨s.h.o, s.h.nx + 18⟩ (Q .normal)) : wC fs out c20_32 s Q := wC_region rfl rfl h
def c20_33 : ACode := .cond (.t 50) (.exit 0) .skip [0, 1, 3, 10, 11, 12]
theorem s20_33 (h : onC (s.t 50) (Q (.exit 0) (keepOnly [0, 1, 3, 10, 11, 12] s)) (Q .normal (keepOnly [0, 1, 3, 10, 11, 12] s))) : wC fs out c20_33 s Q := wC_condC (by first | exact h | (simp only [wC_skip, wC_exit, wC_ret]; exact h))
def c20_31 : ACode := .seq c20_32 c20_33
theorem s20_31 (h : wS fs out s.h.nx o20_32 s.t ⟨s.h.o, s.h.nx + 18⟩ fun s1 => wC fs out c20_33 s1 Q) : wC fs out c20_31 s Q := wC_seq (s20_32 h)
def o20_35 : List (Nat × AOper) := (0, ⟨some 51, .mov (.t 1), none⟩) ::
   (1, ⟨some 52, .len (.t 51), none⟩) ::
   (2, ⟨some 53, .mov (.k (.v (.one (.int .i64 0)))), none⟩) ::
   []
theorem h20_35 : wS fs out b o20_35 t h R = (wV fs out (b + 0) noT h (.mov (.k (t 1))) fun x51_0 h => wV fs out (b + 1) noT h (.len (.k x51_0)) fun x52_1 h => wV fs out (b + 2) noT h (.mov (.k (.v (.one (.int .i64 0))))) fun x53_2 h => R ⟨(upd (upd (upd t 51 x51_0) 52 x52_1) 53 x53_2), h⟩) := by kernel_rfl
def c20_35 : ACode := .region (o20_35.map (·.2)) [0, 1, 2] []
theorem s20_35 (h : wS fs out s.h.nx o20_35 s.t ⟨s.h.o, s.h.nx + 3⟩ (Q .normal)) : wC fs out c20_35 s Q := wC_region rfl rfl h
def o20_39 : List (Nat × AOper) := (0, ⟨some 54, .bin .lss (.t 53) (.t 52), none⟩) ::
   []
theorem h20_39 : wS fs out b o20_39 t h R = (wV fs out (b + 0) noT h (.bin .lss (.k (t 53)) (.k (t 52))) fun x54_0 h => R ⟨(upd t 54 x54_0), h⟩) := by kernel_rfl
def c20_39 : ACode := .region (o20_39.map (·.2)) [0] []
theorem s20_39 (h : wS fs out s.h.nx o20_39 s.t ⟨s.h.o, s.h.nx + 1⟩ (Q .normal)) : wC fs out c20_39 s Q := wC_region rfl rfl h
def c20_41 : ACode := .cond (.t 54) .skip (.exit 2) [0, 1, 3, 10, 11, 12, 51, 52, 53]
theorem s20_41 (h : onC (s.t 54) (Q .normal (keepOnly [0, 1, 3, 10, 11, 12, 51, 52, 53] s)) (Q (.exit 2) (keepOnly [0, 1, 3, 10, 11, 12, 51, 52, 53] s))) : wC fs out c20_41 s Q := wC_condC (by first | exact h | (simp only [wC_skip, wC_exit, wC_ret]; exact h))
def o20_45 : List (Nat × AOper) := (0, ⟨some 55, .mov (.t 53), none⟩) ::
   (1, ⟨some 56, .iadr 4 (.t 51) (.t 53), none⟩) ::
   (2, ⟨some 57, .load (some 4) (.t 56), none⟩) ::
   (3, ⟨some 14, .new 35 [(.int .i64 0), (.int .i64 0), (.int .i64 0), (.int .i64 0)], none⟩) ::
   (4, ⟨some 13, .mov (.t 55), none⟩) ::
   (5, ⟨none, .store 4 (.t 14) (.t 57), none⟩) ::
   []
theorem h20_45 : wS fs out b o20_45 t h R = (wV fs out (b + 0) noT h (.mov (.k (t 53))) fun x55_0 h => wV fs out (b + 1) noT h (.iadr 4 (.k (t 51)) (.k (t 53))) fun x56_1 h => wV fs out (b + 2) noT h (.load (some 4) (.k x56_1)) fun x57_2 h => wV fs out (b + 3) noT h (.new 35 [(.int .i64 0), (.int .i64 0), (.int .i64 0), (.int .i64 0)]) fun x14_3 h => wV fs out (b + 4) noT h (.mov (.k x55_0)) fun x13_4 h => wV fs out (b + 5) noT h (.store 4 (.k x14_3) (.k x57_2)) fun _ h => R ⟨(upd (upd (upd (upd (upd t 55 x55_0) 56 x56_1) 57 x57_2) 14 x14_3) 13 x13_4), h⟩) := by kernel_rfl
def c20_45 : ACode := .region (o20_45.map (·.2)) [0, 1, 2, 3, 4, 5] []
theorem s20_45 (h : wS fs out s.h.nx o20_45 s.t ⟨s.h.o, s.h.nx + 6⟩ (Q .normal)) : wC fs out c20_45 s Q := wC_region rfl rfl h
def o20_47_4 : List (Nat × AOper) := (27, ⟨some 85, .pick (.t 69) (.t 84) (.k (.v (.one (.bool false)))), none⟩) ::
   []
theorem h20_47_4 : wS fs out b o20_47_4 t h R = (wV fs out (b + 27) noT h (.pick (.k (t 69)) (.k (t 84)) (.k (.v (.one (.bool false))))) fun x85_0 h => R ⟨(upd t 85 x85_0), h⟩) := by kernel_rfl
def o20_47_3g_1 : List (Nat × AOper) := (22, ⟨some 80, .load none (.t 79), none⟩) ::
   (23, ⟨some 81, .mov (.t 3), none⟩) ::
   (24, ⟨some 82, .iadr 1 (.t 80) (.t 81), none⟩) ::
   (25, ⟨some 83, .load none (.t 82), none⟩) ::
   (26, ⟨some 84, .bin .eql (.t 78) (.t 83), none⟩) ::
   []
theorem h20_47_3g_1 : wS fs out b o20_47_3g_1 t h R = (wV fs out (b + 22) noT h (.load none (.k (t 79))) fun x80_0 h => wV fs out (b + 23) noT h (.mov (.k (t 3))) fun x81_1 h => wV fs out (b + 24) noT h (.iadr 1 (.k x80_0) (.k x81_1)) fun x82_2 h => wV fs out (b + 25) noT h (.load none (.k x82_2)) fun x83_3 h => wV fs out (b + 26) noT h (.bin .eql (.k (t 78)) (.k x83_3)) fun x84_4 h => R ⟨(upd (upd (upd (upd (upd t 80 x80_0) 81 x81_1) 82 x82_2) 83 x83_3) 84 x84_4), h⟩) := by kernel_rfl
def o20_47_3g : List (Nat × AOper) := (12, ⟨some 70, .fadr 1 (.t 10), none⟩) ::
   (13, ⟨some 71, .load none (.t 70), none⟩) ::
   (14, ⟨some 72, .fadr 0 (.t 14), none⟩) ::
   (15, ⟨some 73, .load none (.t 72), none⟩) ::
   (16, ⟨some 74, .iadr 1 (.t 71) (.t 73), none⟩) ::
   (17, ⟨some 75, .load none (.t 74), none⟩) ::
   (18, ⟨some 76, .fadr 2 (.t 14), none⟩) ::
   (19, ⟨some 77, .load none (.t 76), none⟩) ::
   (20, ⟨some 78, .bin .add (.t 75) (.t 77), none⟩) ::
   (21, ⟨some 79, .fadr 0 (.t 10), none⟩) ::
   o20_47_3g_1
theorem h20_47_3g : wS fs out b o20_47_3g t h R = (wV fs out (b + 12) noT h (.fadr 1 (.k (t 10))) fun x70_0 h => wV fs out (b + 13) noT h (.load none (.k x70_0)) fun x71_1 h => wV fs out (b + 14) noT h (.fadr 0 (.k (t 14))) fun x72_2 h => wV fs out (b + 15) noT h (.load none (.k x72_2)) fun x73_3 h => wV fs out (b + 16) noT h (.iadr 1 (.k x71_1) (.k x73_3)) fun x74_4 h => wV fs out (b + 17) noT h (.load none (.k x74_4)) fun x75_5 h => wV fs out (b + 18) noT h (.fadr 2 (.k (t 14))) fun x76_6 h => wV fs out (b + 19) noT h (.load none (.k x76_6)) fun x77_7 h => wV fs out (b + 20) noT h (.bin .add (.k x75_5) (.k x77_7)) fun x78_8 h => wV fs out (b + 21) noT h (.fadr 0 (.k (t 10))) fun x79_9 h => wS fs out b o20_47_3g_1 (upd (upd (upd (upd (upd (upd (upd (upd (upd (upd t 70 x70_0) 71 x71_1) 72 x72_2) 73 x73_3) 74 x74_4) 75 x75_5) 76 x76_6) 77 x77_7) 78 x78_8) 79 x79_9) h R) := by kernel_rfl
def o20_47_3 : List (Nat × AOper) := grp 69 true o20_47_3g o20_47_4
theorem w20_47_3 : wS fs out b o20_47_3 t h R = onG (t 69) true (wS fs out b o20_47_3g (upd t 69 (.v (.one (.bool true)))) h fun s => wS fs out b o20_47_4 s.t s.h R) (wS fs out b o20_47_4 (upd (upd (upd (upd (upd (upd (upd (upd (upd (upd (upd (upd (upd (upd (upd (upd t 69 (.v (.one (.bool false)))) 70 (.tup [])) 71 (.tup [])) 72 (.tup [])) 73 (.tup [])) 74 (.tup [])) 75 (.tup [])) 76 (.tup [])) 77 (.tup [])) 78 (.tup [])) 79 (.tup [])) 80 (.tup [])) 81 (.tup [])) 82 (.tup [])) 83 (.tup [])) 84 (.tup [])) h R) (wS fs out b o20_47_4 (upd (upd (upd (upd (upd (upd (upd (upd (upd (upd (upd (upd (upd (upd (upd t 70 (.tup [])) 71 (.tup [])) 72 (.tup [])) 73 (.tup [])) 74 (.tup [])) 75 (.tup [])) 76 (.tup [])) 77 (.tup [])) 78 (.tup [])) 79 (.tup [])) 80 (.tup [])) 81 (.tup [])) 82 (.tup [])) 83 (.tup [])) 84 (.tup [])) h R) := wS_grpE rfl
def o20_47_2 : List (Nat × AOper) := (10, ⟨some 68, .pick (.t 62) (.t 67) (.k (.v (.one (.bool false)))), none⟩) ::
   (11, ⟨some 69, .mov (.t 68), none⟩) ::
   o20_47_3
theorem h20_47_2 : wS fs out b o20_47_2 t h R = (wV fs out (b + 10) noT h (.pick (.k (t 62)) (.k (t 67)) (.k (.v (.one (.bool false))))) fun x68_0 h => wV fs out (b + 11) noT h (.mov (.k x68_0)) fun x69_1 h => wS fs out b o20_47_3 (upd (upd t 68 x68_0) 69 x69_1) h R) := by kernel_rfl
def o20_47_1g : List (Nat × AOper) := (5, ⟨some 63, .fadr 2 (.t 10), none⟩) ::
   (6, ⟨some 64, .load none (.t 63), none⟩) ::
   (7, ⟨some 65, .mov (.t 13), none⟩) ::
   (8, ⟨some 66, .iadr 1 (.t 64) (.t 65), none⟩) ::
   (9, ⟨some 67, .load none (.t 66), none⟩) ::
   []
theorem h20_47_1g : wS fs out b o20_47_1g t h R = (wV fs out (b + 5) noT h (.fadr 2 (.k (t 10))) fun x63_0 h => wV fs out (b + 6) noT h (.load none (.k x63_0)) fun x64_1 h => wV fs out (b + 7) noT h (.mov (.k (t 13))) fun x65_2 h => wV fs out (b + 8) noT h (.iadr 1 (.k x64_1) (.k x65_2)) fun x66_3 h => wV fs out (b + 9) noT h (.load none (.k x66_3)) fun x67_4 h => R ⟨(upd (upd (upd (upd (upd t 63 x63_0) 64 x64_1) 65 x65_2) 66 x66_3) 67 x67_4), h⟩) := by kernel_rfl
def o20_47_1 : List (Nat × AOper) := grp 62 true o20_47_1g o20_47_2
theorem w20_47_1 : wS fs out b o20_47_1 t h R = onG (t 62) true (wS fs out b o20_47_1g (upd t 62 (.v (.one (.bool true)))) h fun s => wS fs out b o20_47_2 s.t s.h R) (wS fs out b o20_47_2 (upd (upd (upd (upd (upd (upd t 62 (.v (.one (.bool false)))) 63 (.tup [])) 64 (.tup [])) 65 (.tup [])) 66 (.tup [])) 67 (.tup [])) h R) (wS fs out b o20_47_2 (upd (upd (upd (upd (upd t 63 (.tup [])) 64 (.tup [])) 65 (.tup [])) 66 (.tup [])) 67 (.tup [])) h R) := wS_grpE rfl
def o20_47 : List (Nat × AOper) := (0, ⟨some 58, .fadr 1 (.t 14), none⟩) ::
   (1, ⟨some 59, .load none (.t 58), none⟩) ::
   (2, ⟨some 60, .mov (.t 3), none⟩) ::
   (3, ⟨some 61, .bin .eql (.t 59) (.t 60), none⟩) ::
   (4, ⟨some 62, .mov (.t 61), none⟩) ::
   o20_47_1
theorem h20_47 : wS fs out b o20_47 t h R = (wV fs out (b + 0) noT h (.fadr 1 (.k (t 14))) fun x58_0 h => wV fs out (b + 1) noT h (.load none (.k x58_0)) fun x59_1 h => wV fs out (b + 2) noT h (.mov (.k (t 3))) fun x60_2 h => wV fs out (b + 3) noT h (.bin .eql (.k x59_1) (.k x60_2)) fun x61_3 h => wV fs out (b + 4) noT h (.mov (.k x61_3)) fun x62_4 h => wS fs out b o20_47_1 (upd (upd (upd (upd (upd t 58 x58_0) 59 x59_1) 60 x60_2) 61 x61_3) 62 x62_4) h R) := by kernel_rfl
def c20_47 : ACode := .region (o20_47.map (·.2)) [0, 1, 2, 3, 4, 5, 6, 7, 8, 9, 10, 11, 12, 13, 14, 15, 16, 17, 18, 19, 20, 21, 22, 23, 24, 25, 26, 27] []
theorem s20_47 (h : wS fs out s.h.nx o20_47 s.t ⟨s.h.o, s.h.nx + 28⟩ (Q .normal)) : wC fs out c20_47 s Q := wC_region rfl rfl h
def o20_50_1 : List (Nat × AOper) := (4, ⟨some 11, .mov (.t 89), none⟩) ::
   []
theorem h20_50_1 : wS fs out b o20_50_1 t h R = (wV fs out (b + 4) noT h (.mov (.k (t 89))) fun x11_0 h => R ⟨(upd t 11 x11_0), h⟩) := by kernel_rfl
def o20_50 : List (Nat × AOper) := (0, ⟨some 86, .mov (.t 11), none⟩) ::
   (1, ⟨some 87, .mov (.t 13), none⟩) ::
   (2, ⟨some 88, .bsl 3 1 1 [(.int .i64 0)] [(0, 1, (.t 87))], none⟩) ::
   (3, ⟨some 89, .app 3 1 8 (.t 86) (.t 88), none⟩) ::
   o20_50_1
theorem h20_50 : wS fs out b o20_50 t h R = (wV fs out (b + 0) noT h (.mov (.k (t 11))) fun x86_0 h => wV fs out (b + 1) noT h (.mov (.k (t 13))) fun x87_1 h => wV fs out (b + 2) noT h (.bsl 3 1 1 [(.int .i64 0)] [(0, 1, (.k x87_1))]) fun x88_2 h => wV fs out (b + 3) noT h (.app 3 1 8 (.k x86_0) (.k x88_2)) fun x89_3 h => wS fs out b o20_50_1 (upd (upd (upd (upd t 86 x86_0) 87 x87_1) 88 x88_2) 89 x89_3) h R) := by kernel_rfl
def c20_50 : ACode := .region (o20_50.map (·.2)) [0, 1, 2, 3, 4] []
theorem s20_50 (h : wS fs out s.h.nx o20_50 s.t ⟨s.h.o, s.h.nx + 5⟩ (Q .normal)) : wC fs out c20_50 s Q := wC_region rfl rfl h
def o20_52 : List (Nat × AOper) := (0, ⟨some 90, .fadr 0 (.t 14), none⟩) ::
   (1, ⟨some 91, .load none (.t 90), none⟩) ::
   (2, ⟨some 3, .mov (.t 91), none⟩) ::
   (3, ⟨some 12, .mov (.k (.v (.one (.bool true)))), none⟩) ::
   []
theorem h20_52 : wS fs out b o20_52 t h R = (wV fs out (b + 0) noT h (.fadr 0 (.k (t 14))) fun x90_0 h => wV fs out (b + 1) noT h (.load none (.k x90_0)) fun x91_1 h => wV fs out (b + 2) noT h (.mov (.k x91_1)) fun x3_2 h => wV fs out (b + 3) noT h (.mov (.k (.v (.one (.bool true))))) fun x12_3 h => R ⟨(upd (upd (upd (upd t 90 x90_0) 91 x91_1) 3 x3_2) 12 x12_3), h⟩) := by kernel_rfl
def c20_52 : ACode := .region (o20_52.map (·.2)) [0, 1, 2, 3] []
theorem s20_52 (h : wS fs out s.h.nx o20_52 s.t ⟨s.h.o, s.h.nx + 4⟩ (Q .normal)) : wC fs out c20_52 s Q := wC_region rfl rfl h
def c20_51 : ACode := .seq c20_52 (.exit 2)
theorem s20_51 (h : wS fs out s.h.nx o20_52 s.t ⟨s.h.o, s.h.nx + 4⟩ fun s1 => wC fs out (.exit 2) s1 Q) : wC fs out c20_51 s Q := wC_seq (s20_52 h)
def c20_49 : ACode := .seq c20_50 c20_51
theorem s20_49 (h : wS fs out s.h.nx o20_50 s.t ⟨s.h.o, s.h.nx + 5⟩ fun s1 => wC fs out c20_51 s1 Q) : wC fs out c20_49 s Q := wC_seq (s20_50 h)
def c20_48 : ACode := .cond (.t 85) c20_49 .skip [0, 1, 3, 10, 11, 12, 51, 52, 53]
theorem s20_48 (h : onC (s.t 85) (wC fs out c20_49 s fun e s1 => Q e (keepOnly [0, 1, 3, 10, 11, 12, 51, 52, 53] s1)) (Q .normal (keepOnly [0, 1, 3, 10, 11, 12, 51, 52, 53] s))) : wC fs out c20_48 s Q := wC_condC (by first | exact h | (simp only [wC_skip, wC_exit, wC_ret]; exact h))
def c20_46 : ACode := .seq c20_47 c20_48
theorem s20_46 (h : wS fs out s.h.nx o20_47 s.t ⟨s.h.o, s.h.nx + 28⟩ fun s1 => wC fs out c20_48 s1 Q) : wC fs out c20_46 s Q := wC_seq (s20_47 h)
def c20_44 : ACode := .seq c20_45 c20_46
theorem s20_44 (h : wS fs out s.h.nx o20_45 s.t ⟨s.h.o, s.h.nx + 6⟩ fun s1 => wC fs out c20_46 s1 Q) : wC fs out c20_44 s Q := wC_seq (s20_45 h)
def c20_43 : ACode := .block 3 c20_44
theorem s20_43 (h : wC fs out c20_44 s fun e s1 => Q (if e = .exit 3 then .normal else e) s1) : wC fs out c20_43 s Q := wC_block h
def o20_53 : List (Nat × AOper) := (0, ⟨some 92, .bin .add (.t 53) (.k (.v (.one (.int .i64 1)))), none⟩) ::
   (1, ⟨some 53, .mov (.t 92), none⟩) ::
   []
theorem h20_53 : wS fs out b o20_53 t h R = (wV fs out (b + 0) noT h (.bin .add (.k (t 53)) (.k (.v (.one (.int .i64 1))))) fun x92_0 h => wV fs out (b + 1) noT h (.mov (.k x92_0)) fun x53_1 h => R ⟨(upd (upd t 92 x92_0) 53 x53_1), h⟩) := by kernel_rfl
def c20_53 : ACode := .region (o20_53.map (·.2)) [0, 1] []
theorem s20_53 (h : wS fs out s.h.nx o20_53 s.t ⟨s.h.o, s.h.nx + 2⟩ (Q .normal)) : wC fs out c20_53 s Q := wC_region rfl rfl h
def c20_42 : ACode := .seq c20_43 c20_53
theorem s20_42 (h : wC fs out c20_43 s fun e s1 => match e with | .normal => wC fs out c20_53 s1 Q | e => Q e s1) : wC fs out c20_42 s Q := wC_seq h
def c20_40 : ACode := .seq c20_41 c20_42
theorem s20_40 (h : onC (s.t 54) (wC fs out c20_42 (keepOnly [0, 1, 3, 10, 11, 12, 51, 52, 53] s) Q) (Q (.exit 2) (keepOnly [0, 1, 3, 10, 11, 12, 51, 52, 53] s))) : wC fs out c20_40 s Q := wC_seq (s20_41 h)
def c20_38 : ACode := .seq c20_39 c20_40
theorem s20_38 (h : wS fs out s.h.nx o20_39 s.t ⟨s.h.o, s.h.nx + 1⟩ fun s1 => wC fs out c20_40 s1 Q) : wC fs out c20_38 s Q := wC_seq (s20_39 h)
def c20_37 : ACode := .loop [0, 1, 3, 10, 11, 12, 51, 52, 53] c20_38
theorem s20_37 (I : Nat → St → Prop) (n : Nat) (h0 : I n (keepOnly [0, 1, 3, 10, 11, 12, 51, 52, 53] s)) (step : ∀ m s (Q' : AExit → St → Prop), I m s → (∀ m' s1, m' < m → I m' (keepOnly [0, 1, 3, 10, 11, 12, 51, 52, 53] s1) → Q' .normal s1) → (∀ i s1, Q (.exit i) s1 → Q' (.exit i) s1) → (∀ s1, Q .ret s1 → Q' .ret s1) → wC fs out c20_38 s Q') : wC fs out c20_37 s Q := wC_loopQ I n h0 step
def c20_36 : ACode := .block 2 c20_37
theorem s20_36 (h : wC fs out c20_37 s fun e s1 => Q (if e = .exit 2 then .normal else e) s1) : wC fs out c20_36 s Q := wC_block h
def c20_34 : ACode := .seq c20_35 c20_36
theorem s20_34 (h : wS fs out s.h.nx o20_35 s.t ⟨s.h.o, s.h.nx + 3⟩ fun s1 => wC fs out c20_36 s1 Q) : wC fs out c20_34 s Q := wC_seq (s20_35 h)
def c20_30 : ACode := .seq c20_31 c20_34
theorem s20_30 (h : wC fs out c20_31 s fun e s1 => match e with | .normal => wC fs out c20_34 s1 Q | e => Q e s1) : wC fs out c20_30 s Q := wC_seq h
def c20_28 : ACode := .seq c20_29 c20_30
theorem s20_28 (h : wS fs out s.h.nx o20_29 s.t ⟨s.h.o, s.h.nx + 1⟩ fun s1 => wC fs out c20_30 s1 Q) : wC fs out c20_28 s Q := wC_seq (s20_29 h)
def c20_27 : ACode := .block 1 c20_28
theorem s20_27 (h : wC fs out c20_28 s fun e s1 => Q (if e = .exit 1 then .normal else e) s1) : wC fs out c20_27 s Q := wC_block h
def c20_23 : ACode := .seq c20_24 c20_27
theorem s20_23 (h : wC fs out c20_24 s fun e s1 => match e with | .normal => wC fs out c20_27 s1 Q | e => Q e s1) : wC fs out c20_23 s Q := wC_seq h
def c20_22 : ACode := .loop [0, 1, 3, 10, 11, 12] c20_23
theorem s20_22 (I : Nat → St → Prop) (n : Nat) (h0 : I n (keepOnly [0, 1, 3, 10, 11, 12] s)) (step : ∀ m s (Q' : AExit → St → Prop), I m s → (∀ m' s1, m' < m → I m' (keepOnly [0, 1, 3, 10, 11, 12] s1) → Q' .normal s1) → (∀ i s1, Q (.exit i) s1 → Q' (.exit i) s1) → (∀ s1, Q .ret s1 → Q' .ret s1) → wC fs out c20_23 s Q') : wC fs out c20_22 s Q := wC_loopQ I n h0 step
def c20_21 : ACode := .block 0 c20_22
theorem s20_21 (h : wC fs out c20_22 s fun e s1 => Q (if e = .exit 0 then .normal else e) s1) : wC fs out c20_21 s Q := wC_block h
def c20_19 : ACode := .seq c20_20 c20_21
theorem s20_19 (h : wS fs out s.h.nx o20_20 s.t ⟨s.h.o, s.h.nx + 1⟩ fun s1 => wC fs out c20_21 s1 Q) : wC fs out c20_19 s Q := wC_seq (s20_20 h)
def o20_55 : List (Nat × AOper) := (0, ⟨some 93, .mov (.t 11), none⟩) ::
   (1, ⟨some 8, .mov (.t 93), none⟩) ::
   (2, ⟨some 9, .mov (.k (.v (.one (.int .i64 0)))), none⟩) ::
   []
theorem h20_55 : wS fs out b o20_55 t h R = (wV fs out (b + 0) noT h (.mov (.k (t 11))) fun x93_0 h => wV fs out (b + 1) noT h (.mov (.k x93_0)) fun x8_1 h => wV fs out (b + 2) noT h (.mov (.k (.v (.one (.int .i64 0))))) fun x9_2 h => R ⟨(upd (upd (upd t 93 x93_0) 8 x8_1) 9 x9_2), h⟩) := by kernel_rfl
def c20_55 : ACode := .region (o20_55.map (·.2)) [0, 1, 2] []
theorem s20_55 (h : wS fs out s.h.nx o20_55 s.t ⟨s.h.o, s.h.nx + 3⟩ (Q .normal)) : wC fs out c20_55 s Q := wC_region rfl rfl h
def c20_54 : ACode := .seq c20_55 .ret
theorem s20_54 (h : wS fs out s.h.nx o20_55 s.t ⟨s.h.o, s.h.nx + 3⟩ fun s1 => wC fs out .ret s1 Q) : wC fs out c20_54 s Q := wC_seq (s20_55 h)
def c20_18 : ACode := .seq c20_19 c20_54
theorem s20_18 (h : wC fs out c20_19 s fun e s1 => match e with | .normal => wC fs out c20_54 s1 Q | e => Q e s1) : wC fs out c20_18 s Q := wC_seq h
def c20_16 : ACode := .seq c20_17 c20_18
theorem s20_16 (h : wS fs out s.h.nx o20_17 s.t ⟨s.h.o, s.h.nx + 1⟩ fun s1 => wC fs out c20_18 s1 Q) : wC fs out c20_16 s Q := wC_seq (s20_17 h)
def c20_14 : ACode := .seq c20_15 c20_16
theorem s20_14 (h : wS fs out s.h.nx o20_15 s.t ⟨s.h.o, s.h.nx + 6⟩ fun s1 => wC fs out c20_16 s1 Q) : wC fs out c20_14 s Q := wC_seq (s20_15 h)
def c20_8 : ACode := .seq c20_9 c20_14
theorem s20_8 (h : wC fs out c20_9 s fun e s1 => match e with | .normal => wC fs out c20_14 s1 Q | e => Q e s1) : wC fs out c20_8 s Q := wC_seq h
def c20_2 : ACode := .seq c20_3 c20_8
theorem s20_2 (h : wC fs out c20_3 s fun e s1 => match e with | .normal => wC fs out c20_8 s1 Q | e => Q e s1) : wC fs out c20_2 s Q := wC_seq h
def c20_0 : ACode := .seq c20_1 c20_2
theorem s20_0 (h : wS fs out s.h.nx o20_1 s.t ⟨s.h.o, s.h.nx + 2⟩ fun s1 => wC fs out c20_2 s1 Q) : wC fs out c20_0 s Q := wC_seq (s20_1 h)
def a20 : AFunc := ⟨4, [8, 9], none, c20_0⟩
theorem t20 : tell Try.prog Try.f20 [([0, 1, 2, 3, 8, 9], [], []), ([0, 1, 2, 3, 8, 9], [], []), ([0, 1, 3, 10, 11, 12], [], []), ([0, 1, 3, 10, 11], [], []), ([0, 1, 2, 3, 4, 5, 6, 7, 8, 9, 10, 11, 12, 13, 14, 15, 16, 17], [], [0, 0, 3, 7, 15, 31, 63, 127, 63, 511, 1023, 63, 63, 6207, 14399, 30783, 65535, 131071]), ([0, 1, 3, 10, 11, 12], [], []), ([0, 1, 3, 10, 11, 12, 51, 52, 53], [], []), ([0, 1, 3, 10, 11, 12, 51, 52, 53], [], []), ([0, 1, 2, 3, 4, 5, 6, 7, 8, 9, 10, 11, 12, 13, 14, 15, 16, 17, 18, 19, 20, 21, 22, 23, 24, 25, 26, 27], [], [0, 1, 0, 7, 15, 31, 63, 31, 255, 511, 1023, 2047, 4095, 8191, 4095, 20479, 65535, 131071, 4095, 266239, 1048575, 4095, 2101247, 4095, 14684159, 31461375, 67108863, 134217727]), ([0, 1, 3, 10, 11, 12, 51, 52, 53], [], [])] = some a20 := by kernel_rfl
theorem ok20 : FuncOk Try.prog 20 a20 := tell_ok Try.func20 t20

end Go.Proofs.Ythoicdnlcnppgaa.Fn
