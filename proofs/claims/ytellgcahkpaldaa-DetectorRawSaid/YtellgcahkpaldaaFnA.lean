/- Functions of the program, as the abstract machine's, and that they are. Conditions: none. -/
import Derived.Test.YtellgcahkpaldaaAmCo
import Derived.Test.YtellgcahkpaldaaAmEv
import Derived.Test.YtellgcahkpaldaaProg
set_option linter.unusedVariables false
set_option linter.unusedSimpArgs false
namespace Go.Proofs.Ytellgcahkpaldaa.Fn
open Go Go.Am
set_option maxRecDepth 100000
variable {fs : Nat → Option AFunc} {out : Rec} {s : St} {Q : AExit → St → Prop} {b : Nat} {t : Nat → T} {h : AH} {R : St → Prop}
/-- railplan/railplanlaw31.DetectorLatch -/
def o8_1 : List (Nat × AOper) := (0, ⟨some 6, .mov (.k (.v (.one (.bool false)))), none⟩) ::
   []
theorem h8_1 : wS fs out b o8_1 t h R = (wV fs out (b + 0) noT h (.mov (.k (.v (.one (.bool false))))) fun x6_0 h => R ⟨(upd t 6 x6_0), h⟩) := by kernel_rfl
def c8_1 : ACode := .region (o8_1.map (·.2)) [0] []
theorem s8_1 (h : wS fs out s.h.nx o8_1 s.t ⟨s.h.o, s.h.nx + 1⟩ (Q .normal)) : wC fs out c8_1 s Q := wC_region rfl rfl h
def o8_3_3 : List (Nat × AOper) := (9, ⟨some 7, .new 26 [(.int .i64 0), (.int .i64 0), (.int .i64 0)], none⟩) ::
   (10, ⟨none, .store 3 (.t 7) (.t 22), none⟩) ::
   []
theorem h8_3_3 : wS fs out b o8_3_3 t h R = (wV fs out (b + 9) noT h (.new 26 [(.int .i64 0), (.int .i64 0), (.int .i64 0)]) fun x7_0 h => wV fs out (b + 10) noT h (.store 3 (.k x7_0) (.k (t 22))) fun _ h => R ⟨(upd t 7 x7_0), h⟩) := by kernel_rfl
def o8_3_2 : List (Nat × AOper) := (6, ⟨some 20, .bin .add (.k (.v (.one (.int .i64 5)))) (.t 19), none⟩) ::
   (7, ⟨some 21, .build [(.int .i64 0), (.bool false), (.int .i64 0), (.int .i64 0)] [(1, 1, (.k (.v (.one (.bool true))))), (2, 1, (.t 17)), (3, 1, (.t 20))], none⟩) ::
   (8, ⟨some 22, .call 14 [(.t 14), (.t 21)], none⟩) ::
   o8_3_3
theorem h8_3_2 : wS fs out b o8_3_2 t h R = (wV fs out (b + 6) noT h (.bin .add (.k (.v (.one (.int .i64 5)))) (.k (t 19))) fun x20_0 h => wV fs out (b + 7) noT h (.build [(.int .i64 0), (.bool false), (.int .i64 0), (.int .i64 0)] [(1, 1, (.k (.v (.one (.bool true))))), (2, 1, (.k (t 17))), (3, 1, (.k x20_0))]) fun x21_1 h => wV fs out (b + 8) noT h (.call 14 [(.k (t 14)), (.k x21_1)]) fun x22_2 h => wS fs out b o8_3_3 (upd (upd (upd t 20 x20_0) 21 x21_1) 22 x22_2) h R) := by kernel_rfl
def o8_3_1 : List (Nat × AOper) := (3, ⟨some 17, .bin .add (.k (.v (.one (.int .i64 1)))) (.t 16), none⟩) ::
   (4, ⟨some 18, .mov (.t 2), none⟩) ::
   (5, ⟨some 19, .call 17 [(.t 18), (.k (.v (.one (.int .i64 3))))], none⟩) ::
   o8_3_2
theorem h8_3_1 : wS fs out b o8_3_1 t h R = (wV fs out (b + 3) noT h (.bin .add (.k (.v (.one (.int .i64 1)))) (.k (t 16))) fun x17_0 h => wV fs out (b + 4) noT h (.mov (.k (t 2))) fun x18_1 h => wV fs out (b + 5) noT h (.call 17 [(.k x18_1), (.k (.v (.one (.int .i64 3))))]) fun x19_2 h => wS fs out b o8_3_2 (upd (upd (upd t 17 x17_0) 18 x18_1) 19 x19_2) h R) := by kernel_rfl
def o8_3 : List (Nat × AOper) := (0, ⟨some 14, .build [(.int .i64 0), (.int .i64 0), (.int .i64 0)] [], none⟩) ::
   (1, ⟨some 15, .mov (.t 1), none⟩) ::
   (2, ⟨some 16, .call 17 [(.t 15), (.k (.v (.one (.int .i64 3))))], none⟩) ::
   o8_3_1
theorem h8_3 : wS fs out b o8_3 t h R = (wV fs out (b + 0) noT h (.build [(.int .i64 0), (.int .i64 0), (.int .i64 0)] []) fun x14_0 h => wV fs out (b + 1) noT h (.mov (.k (t 1))) fun x15_1 h => wV fs out (b + 2) noT h (.call 17 [(.k x15_1), (.k (.v (.one (.int .i64 3))))]) fun x16_2 h => wS fs out b o8_3_1 (upd (upd (upd t 14 x14_0) 15 x15_1) 16 x16_2) h R) := by kernel_rfl
def c8_3 : ACode := .region (o8_3.map (·.2)) [0, 1, 2, 3, 4, 5, 6, 7, 8, 9, 10] []
theorem s8_3 (h : wS fs out s.h.nx o8_3 s.t ⟨s.h.o, s.h.nx + 11⟩ (Q .normal)) : wC fs out c8_3 s Q := wC_region rfl rfl h
def o8_5_1 : List (Nat × AOper) := (2, ⟨some 8, .mov (.t 24), none⟩) ::
   []
theorem h8_5_1 : wS fs out b o8_5_1 t h R = (wV fs out (b + 2) noT h (.mov (.k (t 24))) fun x8_0 h => R ⟨(upd t 8 x8_0), h⟩) := by kernel_rfl
def o8_5 : List (Nat × AOper) := (0, ⟨some 23, .mov (.t 0), none⟩) ::
   (1, ⟨some 24, .call 22 [(.t 23)], none⟩) ::
   o8_5_1
theorem h8_5 : wS fs out b o8_5 t h R = (wV fs out (b + 0) noT h (.mov (.k (t 0))) fun x23_0 h => wV fs out (b + 1) noT h (.call 22 [(.k x23_0)]) fun x24_1 h => wS fs out b o8_5_1 (upd (upd t 23 x23_0) 24 x24_1) h R) := by kernel_rfl
def c8_5 : ACode := .region (o8_5.map (·.2)) [0, 1, 2] []
theorem s8_5 (h : wS fs out s.h.nx o8_5 s.t ⟨s.h.o, s.h.nx + 3⟩ (Q .normal)) : wC fs out c8_5 s Q := wC_region rfl rfl h
def o8_8 : List (Nat × AOper) := (0, ⟨some 25, .mov (.t 8), none⟩) ::
   (1, ⟨some 26, .len (.t 25), none⟩) ::
   (2, ⟨some 27, .mov (.k (.v (.one (.int .i64 0)))), none⟩) ::
   []
theorem h8_8 : wS fs out b o8_8 t h R = (wV fs out (b + 0) noT h (.mov (.k (t 8))) fun x25_0 h => wV fs out (b + 1) noT h (.len (.k x25_0)) fun x26_1 h => wV fs out (b + 2) noT h (.mov (.k (.v (.one (.int .i64 0))))) fun x27_2 h => R ⟨(upd (upd (upd t 25 x25_0) 26 x26_1) 27 x27_2), h⟩) := by kernel_rfl
def c8_8 : ACode := .region (o8_8.map (·.2)) [0, 1, 2] []
theorem s8_8 (h : wS fs out s.h.nx o8_8 s.t ⟨s.h.o, s.h.nx + 3⟩ (Q .normal)) : wC fs out c8_8 s Q := wC_region rfl rfl h
def o8_12 : List (Nat × AOper) := (0, ⟨some 28, .bin .lss (.t 27) (.t 26), none⟩) ::
   []
theorem h8_12 : wS fs out b o8_12 t h R = (wV fs out (b + 0) noT h (.bin .lss (.k (t 27)) (.k (t 26))) fun x28_0 h => R ⟨(upd t 28 x28_0), h⟩) := by kernel_rfl
def c8_12 : ACode := .region (o8_12.map (·.2)) [0] []
theorem s8_12 (h : wS fs out s.h.nx o8_12 s.t ⟨s.h.o, s.h.nx + 1⟩ (Q .normal)) : wC fs out c8_12 s Q := wC_region rfl rfl h
def c8_14 : ACode := .cond (.t 28) .skip (.exit 0) [1, 7, 25, 26, 27]
theorem s8_14 (h : onC (s.t 28) (Q .normal (keepOnly [1, 7, 25, 26, 27] s)) (Q (.exit 0) (keepOnly [1, 7, 25, 26, 27] s))) : wC fs out c8_14 s Q := wC_condC (by first | exact h | (simp only [wC_skip, wC_exit, wC_ret]; exact h))
def o8_18 : List (Nat × AOper) := (0, ⟨some 29, .iadr 4 (.t 25) (.t 27), none⟩) ::
   (1, ⟨some 30, .load (some 4) (.t 29), none⟩) ::
   (2, ⟨some 10, .new 31 [(.int .i64 0), (.bool false), (.int .i64 0), (.int .i64 0)], none⟩) ::
   (3, ⟨none, .store 4 (.t 10) (.t 30), none⟩) ::
   []
theorem h8_18 : wS fs out b o8_18 t h R = (wV fs out (b + 0) noT h (.iadr 4 (.k (t 25)) (.k (t 27))) fun x29_0 h => wV fs out (b + 1) noT h (.load (some 4) (.k x29_0)) fun x30_1 h => wV fs out (b + 2) noT h (.new 31 [(.int .i64 0), (.bool false), (.int .i64 0), (.int .i64 0)]) fun x10_2 h => wV fs out (b + 3) noT h (.store 4 (.k x10_2) (.k x30_1)) fun _ h => R ⟨(upd (upd (upd t 29 x29_0) 30 x30_1) 10 x10_2), h⟩) := by kernel_rfl
def c8_18 : ACode := .region (o8_18.map (·.2)) [0, 1, 2, 3] []
theorem s8_18 (h : wS fs out s.h.nx o8_18 s.t ⟨s.h.o, s.h.nx + 4⟩ (Q .normal)) : wC fs out c8_18 s Q := wC_region rfl rfl h
def o8_20_1 : List (Nat × AOper) := (3, ⟨none, .store 3 (.t 7) (.t 33), none⟩) ::
   []
theorem h8_20_1 : wS fs out b o8_20_1 t h R = (wV fs out (b + 3) noT h (.store 3 (.k (t 7)) (.k (t 33))) fun _ h => R ⟨t, h⟩) := by kernel_rfl
def o8_20 : List (Nat × AOper) := (0, ⟨some 31, .load (some 3) (.t 7), none⟩) ::
   (1, ⟨some 32, .load (some 4) (.t 10), none⟩) ::
   (2, ⟨some 33, .call 14 [(.t 31), (.t 32)], none⟩) ::
   o8_20_1
theorem h8_20 : wS fs out b o8_20 t h R = (wV fs out (b + 0) noT h (.load (some 3) (.k (t 7))) fun x31_0 h => wV fs out (b + 1) noT h (.load (some 4) (.k (t 10))) fun x32_1 h => wV fs out (b + 2) noT h (.call 14 [(.k x31_0), (.k x32_1)]) fun x33_2 h => wS fs out b o8_20_1 (upd (upd (upd t 31 x31_0) 32 x32_1) 33 x33_2) h R) := by kernel_rfl
def c8_20 : ACode := .region (o8_20.map (·.2)) [0, 1, 2, 3] []
theorem s8_20 (h : wS fs out s.h.nx o8_20 s.t ⟨s.h.o, s.h.nx + 4⟩ (Q .normal)) : wC fs out c8_20 s Q := wC_region rfl rfl h
def o8_22_3 : List (Nat × AOper) := (7, ⟨some 41, .pick (.t 37) (.k (.v (.one (.bool true)))) (.t 40), none⟩) ::
   []
theorem h8_22_3 : wS fs out b o8_22_3 t h R = (wV fs out (b + 7) noT h (.pick (.k (t 37)) (.k (.v (.one (.bool true)))) (.k (t 40))) fun x41_0 h => R ⟨(upd t 41 x41_0), h⟩) := by kernel_rfl
def o8_22_2g : List (Nat × AOper) := (4, ⟨some 38, .load (some 3) (.t 7), none⟩) ::
   (5, ⟨some 39, .build [(.int .i64 0), (.int .i64 0), (.int .i64 0)] [(0, 1, (.k (.v (.one (.int .i64 1)))))], none⟩) ::
   (6, ⟨some 40, .eqs true [true, true, true] (.t 38) (.t 39), none⟩) ::
   []
theorem h8_22_2g : wS fs out b o8_22_2g t h R = (wV fs out (b + 4) noT h (.load (some 3) (.k (t 7))) fun x38_0 h => wV fs out (b + 5) noT h (.build [(.int .i64 0), (.int .i64 0), (.int .i64 0)] [(0, 1, (.k (.v (.one (.int .i64 1)))))]) fun x39_1 h => wV fs out (b + 6) noT h (.eqs true [true, true, true] (.k x38_0) (.k x39_1)) fun x40_2 h => R ⟨(upd (upd (upd t 38 x38_0) 39 x39_1) 40 x40_2), h⟩) := by kernel_rfl
def o8_22_2 : List (Nat × AOper) := grp 37 false o8_22_2g o8_22_3
theorem w8_22_2 : wS fs out b o8_22_2 t h R = onG (t 37) false (wS fs out b o8_22_2g (upd t 37 (.v (.one (.bool false)))) h fun s => wS fs out b o8_22_3 s.t s.h R) (wS fs out b o8_22_3 (upd (upd (upd (upd t 37 (.v (.one (.bool true)))) 38 (.tup [])) 39 (.tup [])) 40 (.tup [])) h R) (wS fs out b o8_22_3 (upd (upd (upd t 38 (.tup [])) 39 (.tup [])) 40 (.tup [])) h R) := wS_grpE rfl
def o8_22_1 : List (Nat × AOper) := (2, ⟨some 36, .bin .neq (.t 35) (.k (.v (.one (.int .i64 2)))), none⟩) ::
   (3, ⟨some 37, .mov (.t 36), none⟩) ::
   o8_22_2
theorem h8_22_1 : wS fs out b o8_22_1 t h R = (wV fs out (b + 2) noT h (.bin .neq (.k (t 35)) (.k (.v (.one (.int .i64 2))))) fun x36_0 h => wV fs out (b + 3) noT h (.mov (.k x36_0)) fun x37_1 h => wS fs out b o8_22_2 (upd (upd t 36 x36_0) 37 x37_1) h R) := by kernel_rfl
def o8_22 : List (Nat × AOper) := (0, ⟨some 34, .load (some 3) (.t 7), none⟩) ::
   (1, ⟨some 35, .call 15 [(.t 34)], none⟩) ::
   o8_22_1
theorem h8_22 : wS fs out b o8_22 t h R = (wV fs out (b + 0) noT h (.load (some 3) (.k (t 7))) fun x34_0 h => wV fs out (b + 1) noT h (.call 15 [(.k x34_0)]) fun x35_1 h => wS fs out b o8_22_1 (upd (upd t 34 x34_0) 35 x35_1) h R) := by kernel_rfl
def c8_22 : ACode := .region (o8_22.map (·.2)) [0, 1, 2, 3, 4, 5, 6, 7] []
theorem s8_22 (h : wS fs out s.h.nx o8_22 s.t ⟨s.h.o, s.h.nx + 8⟩ (Q .normal)) : wC fs out c8_22 s Q := wC_region rfl rfl h
def o8_25 : List (Nat × AOper) := (0, ⟨some 6, .mov (.k (.v (.one (.bool false)))), none⟩) ::
   []
theorem h8_25 : wS fs out b o8_25 t h R = (wV fs out (b + 0) noT h (.mov (.k (.v (.one (.bool false))))) fun x6_0 h => R ⟨(upd t 6 x6_0), h⟩) := by kernel_rfl
def c8_25 : ACode := .region (o8_25.map (·.2)) [0] []
theorem s8_25 (h : wS fs out s.h.nx o8_25 s.t ⟨s.h.o, s.h.nx + 1⟩ (Q .normal)) : wC fs out c8_25 s Q := wC_region rfl rfl h
def c8_24 : ACode := .seq c8_25 .ret
theorem s8_24 (h : wS fs out s.h.nx o8_25 s.t ⟨s.h.o, s.h.nx + 1⟩ fun s1 => wC fs out .ret s1 Q) : wC fs out c8_24 s Q := wC_seq (s8_25 h)
def c8_23 : ACode := .cond (.t 41) c8_24 .skip [1, 6, 7, 25, 26, 27]
theorem s8_23 (h : onC (s.t 41) (wC fs out c8_24 s fun e s1 => Q e (keepOnly [1, 6, 7, 25, 26, 27] s1)) (Q .normal (keepOnly [1, 6, 7, 25, 26, 27] s))) : wC fs out c8_23 s Q := wC_condC (by first | exact h | (simp only [wC_skip, wC_exit, wC_ret]; exact h))
def c8_21 : ACode := .seq c8_22 c8_23
theorem s8_21 (h : wS fs out s.h.nx o8_22 s.t ⟨s.h.o, s.h.nx + 8⟩ fun s1 => wC fs out c8_23 s1 Q) : wC fs out c8_21 s Q := wC_seq (s8_22 h)
def c8_19 : ACode := .seq c8_20 c8_21
theorem s8_19 (h : wS fs out s.h.nx o8_20 s.t ⟨s.h.o, s.h.nx + 4⟩ fun s1 => wC fs out c8_21 s1 Q) : wC fs out c8_19 s Q := wC_seq (s8_20 h)
def c8_17 : ACode := .seq c8_18 c8_19
theorem s8_17 (h : wS fs out s.h.nx o8_18 s.t ⟨s.h.o, s.h.nx + 4⟩ fun s1 => wC fs out c8_19 s1 Q) : wC fs out c8_17 s Q := wC_seq (s8_18 h)
def c8_16 : ACode := .block 1 c8_17
theorem s8_16 (h : wC fs out c8_17 s fun e s1 => Q (if e = .exit 1 then .normal else e) s1) : wC fs out c8_16 s Q := wC_block h
def o8_26 : List (Nat × AOper) := (0, ⟨some 42, .bin .add (.t 27) (.k (.v (.one (.int .i64 1)))), none⟩) ::
   (1, ⟨some 27, .mov (.t 42), none⟩) ::
   []
theorem h8_26 : wS fs out b o8_26 t h R = (wV fs out (b + 0) noT h (.bin .add (.k (t 27)) (.k (.v (.one (.int .i64 1))))) fun x42_0 h => wV fs out (b + 1) noT h (.mov (.k x42_0)) fun x27_1 h => R ⟨(upd (upd t 42 x42_0) 27 x27_1), h⟩) := by kernel_rfl
def c8_26 : ACode := .region (o8_26.map (·.2)) [0, 1] []
theorem s8_26 (h : wS fs out s.h.nx o8_26 s.t ⟨s.h.o, s.h.nx + 2⟩ (Q .normal)) : wC fs out c8_26 s Q := wC_region rfl rfl h
def c8_15 : ACode := .seq c8_16 c8_26
theorem s8_15 (h : wC fs out c8_16 s fun e s1 => match e with | .normal => wC fs out c8_26 s1 Q | e => Q e s1) : wC fs out c8_15 s Q := wC_seq h
def c8_13 : ACode := .seq c8_14 c8_15
theorem s8_13 (h : onC (s.t 28) (wC fs out c8_15 (keepOnly [1, 7, 25, 26, 27] s) Q) (Q (.exit 0) (keepOnly [1, 7, 25, 26, 27] s))) : wC fs out c8_13 s Q := wC_seq (s8_14 h)
def c8_11 : ACode := .seq c8_12 c8_13
theorem s8_11 (h : wS fs out s.h.nx o8_12 s.t ⟨s.h.o, s.h.nx + 1⟩ fun s1 => wC fs out c8_13 s1 Q) : wC fs out c8_11 s Q := wC_seq (s8_12 h)
def c8_10 : ACode := .loop [1, 7, 25, 26, 27] c8_11
theorem s8_10 (I : Nat → St → Prop) (n : Nat) (h0 : I n (keepOnly [1, 7, 25, 26, 27] s)) (step : ∀ m s (Q' : AExit → St → Prop), I m s → (∀ m' s1, m' < m → I m' (keepOnly [1, 7, 25, 26, 27] s1) → Q' .normal s1) → (∀ i s1, Q (.exit i) s1 → Q' (.exit i) s1) → (∀ s1, Q .ret s1 → Q' .ret s1) → wC fs out c8_11 s Q') : wC fs out c8_10 s Q := wC_loopQ I n h0 step
def c8_9 : ACode := .block 0 c8_10
theorem s8_9 (h : wC fs out c8_10 s fun e s1 => Q (if e = .exit 0 then .normal else e) s1) : wC fs out c8_9 s Q := wC_block h
def c8_7 : ACode := .seq c8_8 c8_9
theorem s8_7 (h : wS fs out s.h.nx o8_8 s.t ⟨s.h.o, s.h.nx + 3⟩ fun s1 => wC fs out c8_9 s1 Q) : wC fs out c8_7 s Q := wC_seq (s8_8 h)
def o8_28_1 : List (Nat × AOper) := (2, ⟨none, .store 3 (.t 7) (.t 44), none⟩) ::
   []
theorem h8_28_1 : wS fs out b o8_28_1 t h R = (wV fs out (b + 2) noT h (.store 3 (.k (t 7)) (.k (t 44))) fun _ h => R ⟨t, h⟩) := by kernel_rfl
def o8_28 : List (Nat × AOper) := (0, ⟨some 43, .load (some 3) (.t 7), none⟩) ::
   (1, ⟨some 44, .call 18 [(.t 43)], none⟩) ::
   o8_28_1
theorem h8_28 : wS fs out b o8_28 t h R = (wV fs out (b + 0) noT h (.load (some 3) (.k (t 7))) fun x43_0 h => wV fs out (b + 1) noT h (.call 18 [(.k x43_0)]) fun x44_1 h => wS fs out b o8_28_1 (upd (upd t 43 x43_0) 44 x44_1) h R) := by kernel_rfl
def c8_28 : ACode := .region (o8_28.map (·.2)) [0, 1, 2] []
theorem s8_28 (h : wS fs out s.h.nx o8_28 s.t ⟨s.h.o, s.h.nx + 3⟩ (Q .normal)) : wC fs out c8_28 s Q := wC_region rfl rfl h
def o8_30_1 : List (Nat × AOper) := (2, ⟨some 47, .bin .add (.k (.v (.one (.int .i64 1)))) (.t 46), none⟩) ::
   (3, ⟨some 11, .mov (.t 47), none⟩) ::
   []
theorem h8_30_1 : wS fs out b o8_30_1 t h R = (wV fs out (b + 2) noT h (.bin .add (.k (.v (.one (.int .i64 1)))) (.k (t 46))) fun x47_0 h => wV fs out (b + 3) noT h (.mov (.k x47_0)) fun x11_1 h => R ⟨(upd (upd t 47 x47_0) 11 x11_1), h⟩) := by kernel_rfl
def o8_30 : List (Nat × AOper) := (0, ⟨some 45, .mov (.t 1), none⟩) ::
   (1, ⟨some 46, .call 17 [(.t 45), (.k (.v (.one (.int .i64 9))))], none⟩) ::
   o8_30_1
theorem h8_30 : wS fs out b o8_30 t h R = (wV fs out (b + 0) noT h (.mov (.k (t 1))) fun x45_0 h => wV fs out (b + 1) noT h (.call 17 [(.k x45_0), (.k (.v (.one (.int .i64 9))))]) fun x46_1 h => wS fs out b o8_30_1 (upd (upd t 45 x45_0) 46 x46_1) h R) := by kernel_rfl
def c8_30 : ACode := .region (o8_30.map (·.2)) [0, 1, 2, 3] []
theorem s8_30 (h : wS fs out s.h.nx o8_30 s.t ⟨s.h.o, s.h.nx + 4⟩ (Q .normal)) : wC fs out c8_30 s Q := wC_region rfl rfl h
def o8_32_1 : List (Nat × AOper) := (5, ⟨some 12, .new 26 [(.int .i64 0), (.int .i64 0), (.int .i64 0)], none⟩) ::
   (6, ⟨none, .store 3 (.t 12) (.t 52), none⟩) ::
   []
theorem h8_32_1 : wS fs out b o8_32_1 t h R = (wV fs out (b + 5) noT h (.new 26 [(.int .i64 0), (.int .i64 0), (.int .i64 0)]) fun x12_0 h => wV fs out (b + 6) noT h (.store 3 (.k x12_0) (.k (t 52))) fun _ h => R ⟨(upd t 12 x12_0), h⟩) := by kernel_rfl
def o8_32 : List (Nat × AOper) := (0, ⟨some 48, .load (some 3) (.t 7), none⟩) ::
   (1, ⟨some 49, .mov (.t 11), none⟩) ::
   (2, ⟨some 50, .mov (.t 11), none⟩) ::
   (3, ⟨some 51, .build [(.int .i64 0), (.bool false), (.int .i64 0), (.int .i64 0)] [(1, 1, (.k (.v (.one (.bool true))))), (2, 1, (.t 49)), (3, 1, (.t 50))], none⟩) ::
   (4, ⟨some 52, .call 14 [(.t 48), (.t 51)], none⟩) ::
   o8_32_1
theorem h8_32 : wS fs out b o8_32 t h R = (wV fs out (b + 0) noT h (.load (some 3) (.k (t 7))) fun x48_0 h => wV fs out (b + 1) noT h (.mov (.k (t 11))) fun x49_1 h => wV fs out (b + 2) noT h (.mov (.k (t 11))) fun x50_2 h => wV fs out (b + 3) noT h (.build [(.int .i64 0), (.bool false), (.int .i64 0), (.int .i64 0)] [(1, 1, (.k (.v (.one (.bool true))))), (2, 1, (.k x49_1)), (3, 1, (.k x50_2))]) fun x51_3 h => wV fs out (b + 4) noT h (.call 14 [(.k x48_0), (.k x51_3)]) fun x52_4 h => wS fs out b o8_32_1 (upd (upd (upd (upd (upd t 48 x48_0) 49 x49_1) 50 x50_2) 51 x51_3) 52 x52_4) h R) := by kernel_rfl
def c8_32 : ACode := .region (o8_32.map (·.2)) [0, 1, 2, 3, 4, 5, 6] []
theorem s8_32 (h : wS fs out s.h.nx o8_32 s.t ⟨s.h.o, s.h.nx + 7⟩ (Q .normal)) : wC fs out c8_32 s Q := wC_region rfl rfl h
def o8_34_1 : List (Nat × AOper) := (5, ⟨some 13, .new 26 [(.int .i64 0), (.int .i64 0), (.int .i64 0)], none⟩) ::
   (6, ⟨none, .store 3 (.t 13) (.t 57), none⟩) ::
   []
theorem h8_34_1 : wS fs out b o8_34_1 t h R = (wV fs out (b + 5) noT h (.new 26 [(.int .i64 0), (.int .i64 0), (.int .i64 0)]) fun x13_0 h => wV fs out (b + 6) noT h (.store 3 (.k x13_0) (.k (t 57))) fun _ h => R ⟨(upd t 13 x13_0), h⟩) := by kernel_rfl
def o8_34 : List (Nat × AOper) := (0, ⟨some 53, .load (some 3) (.t 12), none⟩) ::
   (1, ⟨some 54, .mov (.t 11), none⟩) ::
   (2, ⟨some 55, .mov (.t 11), none⟩) ::
   (3, ⟨some 56, .build [(.int .i64 0), (.bool false), (.int .i64 0), (.int .i64 0)] [(2, 1, (.t 54)), (3, 1, (.t 55))], none⟩) ::
   (4, ⟨some 57, .call 14 [(.t 53), (.t 56)], none⟩) ::
   o8_34_1
theorem h8_34 : wS fs out b o8_34 t h R = (wV fs out (b + 0) noT h (.load (some 3) (.k (t 12))) fun x53_0 h => wV fs out (b + 1) noT h (.mov (.k (t 11))) fun x54_1 h => wV fs out (b + 2) noT h (.mov (.k (t 11))) fun x55_2 h => wV fs out (b + 3) noT h (.build [(.int .i64 0), (.bool false), (.int .i64 0), (.int .i64 0)] [(2, 1, (.k x54_1)), (3, 1, (.k x55_2))]) fun x56_3 h => wV fs out (b + 4) noT h (.call 14 [(.k x53_0), (.k x56_3)]) fun x57_4 h => wS fs out b o8_34_1 (upd (upd (upd (upd (upd t 53 x53_0) 54 x54_1) 55 x55_2) 56 x56_3) 57 x57_4) h R) := by kernel_rfl
def c8_34 : ACode := .region (o8_34.map (·.2)) [0, 1, 2, 3, 4, 5, 6] []
theorem s8_34 (h : wS fs out s.h.nx o8_34 s.t ⟨s.h.o, s.h.nx + 7⟩ (Q .normal)) : wC fs out c8_34 s Q := wC_region rfl rfl h
def o8_36_9 : List (Nat × AOper) := (20, ⟨some 78, .pick (.t 74) (.t 77) (.k (.v (.one (.bool false)))), none⟩) ::
   (21, ⟨some 6, .mov (.t 78), none⟩) ::
   []
theorem h8_36_9 : wS fs out b o8_36_9 t h R = (wV fs out (b + 20) noT h (.pick (.k (t 74)) (.k (t 77)) (.k (.v (.one (.bool false))))) fun x78_0 h => wV fs out (b + 21) noT h (.mov (.k x78_0)) fun x6_1 h => R ⟨(upd (upd t 78 x78_0) 6 x6_1), h⟩) := by kernel_rfl
def o8_36_8g_1 : List (Nat × AOper) := (19, ⟨some 77, .bin .eql (.t 76) (.k (.v (.one (.int .i64 0)))), none⟩) ::
   []
theorem h8_36_8g_1 : wS fs out b o8_36_8g_1 t h R = (wV fs out (b + 19) noT h (.bin .eql (.k (t 76)) (.k (.v (.one (.int .i64 0))))) fun x77_0 h => R ⟨(upd t 77 x77_0), h⟩) := by kernel_rfl
def o8_36_8g : List (Nat × AOper) := (17, ⟨some 75, .load (some 3) (.t 13), none⟩) ::
   (18, ⟨some 76, .call 15 [(.t 75)], none⟩) ::
   o8_36_8g_1
theorem h8_36_8g : wS fs out b o8_36_8g t h R = (wV fs out (b + 17) noT h (.load (some 3) (.k (t 13))) fun x75_0 h => wV fs out (b + 18) noT h (.call 15 [(.k x75_0)]) fun x76_1 h => wS fs out b o8_36_8g_1 (upd (upd t 75 x75_0) 76 x76_1) h R) := by kernel_rfl
def o8_36_8 : List (Nat × AOper) := grp 74 true o8_36_8g o8_36_9
theorem w8_36_8 : wS fs out b o8_36_8 t h R = onG (t 74) true (wS fs out b o8_36_8g (upd t 74 (.v (.one (.bool true)))) h fun s => wS fs out b o8_36_9 s.t s.h R) (wS fs out b o8_36_9 (upd (upd (upd (upd t 74 (.v (.one (.bool false)))) 75 (.tup [])) 76 (.tup [])) 77 (.tup [])) h R) (wS fs out b o8_36_9 (upd (upd (upd t 75 (.tup [])) 76 (.tup [])) 77 (.tup [])) h R) := wS_grpE rfl
def o8_36_7 : List (Nat × AOper) := (15, ⟨some 73, .pick (.t 69) (.t 72) (.k (.v (.one (.bool false)))), none⟩) ::
   (16, ⟨some 74, .mov (.t 73), none⟩) ::
   o8_36_8
theorem h8_36_7 : wS fs out b o8_36_7 t h R = (wV fs out (b + 15) noT h (.pick (.k (t 69)) (.k (t 72)) (.k (.v (.one (.bool false))))) fun x73_0 h => wV fs out (b + 16) noT h (.mov (.k x73_0)) fun x74_1 h => wS fs out b o8_36_8 (upd (upd t 73 x73_0) 74 x74_1) h R) := by kernel_rfl
def o8_36_6g_1 : List (Nat × AOper) := (14, ⟨some 72, .bin .eql (.t 71) (.k (.v (.one (.int .i64 2)))), none⟩) ::
   []
theorem h8_36_6g_1 : wS fs out b o8_36_6g_1 t h R = (wV fs out (b + 14) noT h (.bin .eql (.k (t 71)) (.k (.v (.one (.int .i64 2))))) fun x72_0 h => R ⟨(upd t 72 x72_0), h⟩) := by kernel_rfl
def o8_36_6g : List (Nat × AOper) := (12, ⟨some 70, .load (some 3) (.t 12), none⟩) ::
   (13, ⟨some 71, .call 15 [(.t 70)], none⟩) ::
   o8_36_6g_1
theorem h8_36_6g : wS fs out b o8_36_6g t h R = (wV fs out (b + 12) noT h (.load (some 3) (.k (t 12))) fun x70_0 h => wV fs out (b + 13) noT h (.call 15 [(.k x70_0)]) fun x71_1 h => wS fs out b o8_36_6g_1 (upd (upd t 70 x70_0) 71 x71_1) h R) := by kernel_rfl
def o8_36_6 : List (Nat × AOper) := grp 69 true o8_36_6g o8_36_7
theorem w8_36_6 : wS fs out b o8_36_6 t h R = onG (t 69) true (wS fs out b o8_36_6g (upd t 69 (.v (.one (.bool true)))) h fun s => wS fs out b o8_36_7 s.t s.h R) (wS fs out b o8_36_7 (upd (upd (upd (upd t 69 (.v (.one (.bool false)))) 70 (.tup [])) 71 (.tup [])) 72 (.tup [])) h R) (wS fs out b o8_36_7 (upd (upd (upd t 70 (.tup [])) 71 (.tup [])) 72 (.tup [])) h R) := wS_grpE rfl
def o8_36_5 : List (Nat × AOper) := (10, ⟨some 68, .pick (.t 64) (.t 67) (.k (.v (.one (.bool false)))), none⟩) ::
   (11, ⟨some 69, .mov (.t 68), none⟩) ::
   o8_36_6
theorem h8_36_5 : wS fs out b o8_36_5 t h R = (wV fs out (b + 10) noT h (.pick (.k (t 64)) (.k (t 67)) (.k (.v (.one (.bool false))))) fun x68_0 h => wV fs out (b + 11) noT h (.mov (.k x68_0)) fun x69_1 h => wS fs out b o8_36_6 (upd (upd t 68 x68_0) 69 x69_1) h R) := by kernel_rfl
def o8_36_4g_1 : List (Nat × AOper) := (9, ⟨some 67, .bin .eql (.t 66) (.k (.v (.one (.int .i64 2)))), none⟩) ::
   []
theorem h8_36_4g_1 : wS fs out b o8_36_4g_1 t h R = (wV fs out (b + 9) noT h (.bin .eql (.k (t 66)) (.k (.v (.one (.int .i64 2))))) fun x67_0 h => R ⟨(upd t 67 x67_0), h⟩) := by kernel_rfl
def o8_36_4g : List (Nat × AOper) := (7, ⟨some 65, .load (some 3) (.t 7), none⟩) ::
   (8, ⟨some 66, .call 15 [(.t 65)], none⟩) ::
   o8_36_4g_1
theorem h8_36_4g : wS fs out b o8_36_4g t h R = (wV fs out (b + 7) noT h (.load (some 3) (.k (t 7))) fun x65_0 h => wV fs out (b + 8) noT h (.call 15 [(.k x65_0)]) fun x66_1 h => wS fs out b o8_36_4g_1 (upd (upd t 65 x65_0) 66 x66_1) h R) := by kernel_rfl
def o8_36_4 : List (Nat × AOper) := grp 64 true o8_36_4g o8_36_5
theorem w8_36_4 : wS fs out b o8_36_4 t h R = onG (t 64) true (wS fs out b o8_36_4g (upd t 64 (.v (.one (.bool true)))) h fun s => wS fs out b o8_36_5 s.t s.h R) (wS fs out b o8_36_5 (upd (upd (upd (upd t 64 (.v (.one (.bool false)))) 65 (.tup [])) 66 (.tup [])) 67 (.tup [])) h R) (wS fs out b o8_36_5 (upd (upd (upd t 65 (.tup [])) 66 (.tup [])) 67 (.tup [])) h R) := wS_grpE rfl
def o8_36_3 : List (Nat × AOper) := (5, ⟨some 63, .pick (.t 59) (.t 62) (.k (.v (.one (.bool false)))), none⟩) ::
   (6, ⟨some 64, .mov (.t 63), none⟩) ::
   o8_36_4
theorem h8_36_3 : wS fs out b o8_36_3 t h R = (wV fs out (b + 5) noT h (.pick (.k (t 59)) (.k (t 62)) (.k (.v (.one (.bool false))))) fun x63_0 h => wV fs out (b + 6) noT h (.mov (.k x63_0)) fun x64_1 h => wS fs out b o8_36_4 (upd (upd t 63 x63_0) 64 x64_1) h R) := by kernel_rfl
def o8_36_2g : List (Nat × AOper) := (2, ⟨some 60, .load (some 3) (.t 7), none⟩) ::
   (3, ⟨some 61, .build [(.int .i64 0), (.int .i64 0), (.int .i64 0)] [(0, 1, (.k (.v (.one (.int .i64 2)))))], none⟩) ::
   (4, ⟨some 62, .eqs false [true, true, true] (.t 60) (.t 61), none⟩) ::
   []
theorem h8_36_2g : wS fs out b o8_36_2g t h R = (wV fs out (b + 2) noT h (.load (some 3) (.k (t 7))) fun x60_0 h => wV fs out (b + 3) noT h (.build [(.int .i64 0), (.int .i64 0), (.int .i64 0)] [(0, 1, (.k (.v (.one (.int .i64 2)))))]) fun x61_1 h => wV fs out (b + 4) noT h (.eqs false [true, true, true] (.k x60_0) (.k x61_1)) fun x62_2 h => R ⟨(upd (upd (upd t 60 x60_0) 61 x61_1) 62 x62_2), h⟩) := by kernel_rfl
def o8_36_2 : List (Nat × AOper) := grp 59 true o8_36_2g o8_36_3
theorem w8_36_2 : wS fs out b o8_36_2 t h R = onG (t 59) true (wS fs out b o8_36_2g (upd t 59 (.v (.one (.bool true)))) h fun s => wS fs out b o8_36_3 s.t s.h R) (wS fs out b o8_36_3 (upd (upd (upd (upd t 59 (.v (.one (.bool false)))) 60 (.tup [])) 61 (.tup [])) 62 (.tup [])) h R) (wS fs out b o8_36_3 (upd (upd (upd t 60 (.tup [])) 61 (.tup [])) 62 (.tup [])) h R) := wS_grpE rfl
def o8_36_1 : List (Nat × AOper) := (1, ⟨some 59, .mov (.t 58), none⟩) ::
   o8_36_2
theorem h8_36_1 : wS fs out b o8_36_1 t h R = (wV fs out (b + 1) noT h (.mov (.k (t 58))) fun x59_0 h => wS fs out b o8_36_2 (upd t 59 x59_0) h R) := by kernel_rfl
def o8_36 : List (Nat × AOper) := (0, ⟨some 58, .call 16 [], none⟩) ::
   o8_36_1
theorem h8_36 : wS fs out b o8_36 t h R = (wV fs out (b + 0) noT h (.call 16 []) fun x58_0 h => wS fs out b o8_36_1 (upd t 58 x58_0) h R) := by kernel_rfl
def c8_36 : ACode := .region (o8_36.map (·.2)) [0, 1, 2, 3, 4, 5, 6, 7, 8, 9, 10, 11, 12, 13, 14, 15, 16, 17, 18, 19, 20, 21] []
theorem s8_36 (h : wS fs out s.h.nx o8_36 s.t ⟨s.h.o, s.h.nx + 22⟩ (Q .normal)) : wC fs out c8_36 s Q := wC_region rfl rfl h
def c8_35 : ACode := .seq c8_36 .ret
theorem s8_35 (h : wS fs out s.h.nx o8_36 s.t ⟨s.h.o, s.h.nx + 22⟩ fun s1 => wC fs out .ret s1 Q) : wC fs out c8_35 s Q := wC_seq (s8_36 h)
def c8_33 : ACode := .seq c8_34 c8_35
theorem s8_33 (h : wS fs out s.h.nx o8_34 s.t ⟨s.h.o, s.h.nx + 7⟩ fun s1 => wC fs out c8_35 s1 Q) : wC fs out c8_33 s Q := wC_seq (s8_34 h)
def c8_31 : ACode := .seq c8_32 c8_33
theorem s8_31 (h : wS fs out s.h.nx o8_32 s.t ⟨s.h.o, s.h.nx + 7⟩ fun s1 => wC fs out c8_33 s1 Q) : wC fs out c8_31 s Q := wC_seq (s8_32 h)
def c8_29 : ACode := .seq c8_30 c8_31
theorem s8_29 (h : wS fs out s.h.nx o8_30 s.t ⟨s.h.o, s.h.nx + 4⟩ fun s1 => wC fs out c8_31 s1 Q) : wC fs out c8_29 s Q := wC_seq (s8_30 h)
def c8_27 : ACode := .seq c8_28 c8_29
theorem s8_27 (h : wS fs out s.h.nx o8_28 s.t ⟨s.h.o, s.h.nx + 3⟩ fun s1 => wC fs out c8_29 s1 Q) : wC fs out c8_27 s Q := wC_seq (s8_28 h)
def c8_6 : ACode := .seq c8_7 c8_27
theorem s8_6 (h : wC fs out c8_7 s fun e s1 => match e with | .normal => wC fs out c8_27 s1 Q | e => Q e s1) : wC fs out c8_6 s Q := wC_seq h
def c8_4 : ACode := .seq c8_5 c8_6
theorem s8_4 (h : wS fs out s.h.nx o8_5 s.t ⟨s.h.o, s.h.nx + 3⟩ fun s1 => wC fs out c8_6 s1 Q) : wC fs out c8_4 s Q := wC_seq (s8_5 h)
def c8_2 : ACode := .seq c8_3 c8_4
theorem s8_2 (h : wS fs out s.h.nx o8_3 s.t ⟨s.h.o, s.h.nx + 11⟩ fun s1 => wC fs out c8_4 s1 Q) : wC fs out c8_2 s Q := wC_seq (s8_3 h)
def c8_0 : ACode := .seq c8_1 c8_2
theorem s8_0 (h : wS fs out s.h.nx o8_1 s.t ⟨s.h.o, s.h.nx + 1⟩ fun s1 => wC fs out c8_2 s1 Q) : wC fs out c8_0 s Q := wC_seq (s8_1 h)
def a8 : AFunc := ⟨3, [6], none, c8_0⟩
theorem t8 : tell Try.prog Try.f8 [([1, 7, 25, 26, 27], [], []), ([1, 7, 25, 26, 27], [], []), ([1, 6, 7, 25, 26, 27], [], [])] = some a8 := by kernel_rfl
theorem ok8 : FuncOk Try.prog 8 a8 := tell_ok Try.func8 t8

/-- railplan/railplanlaw31.DetectorRun -/
def o9_1 : List (Nat × AOper) := (0, ⟨some 2, .mov (.k (.v (.one (.bool false)))), none⟩) ::
   []
theorem h9_1 : wS fs out b o9_1 t h R = (wV fs out (b + 0) noT h (.mov (.k (.v (.one (.bool false))))) fun x2_0 h => R ⟨(upd t 2 x2_0), h⟩) := by kernel_rfl
def c9_1 : ACode := .region (o9_1.map (·.2)) [0] []
theorem s9_1 (h : wS fs out s.h.nx o9_1 s.t ⟨s.h.o, s.h.nx + 1⟩ (Q .normal)) : wC fs out c9_1 s Q := wC_region rfl rfl h
def o9_3_1 : List (Nat × AOper) := (2, ⟨some 3, .mov (.t 12), none⟩) ::
   []
theorem h9_3_1 : wS fs out b o9_3_1 t h R = (wV fs out (b + 2) noT h (.mov (.k (t 12))) fun x3_0 h => R ⟨(upd t 3 x3_0), h⟩) := by kernel_rfl
def o9_3 : List (Nat × AOper) := (0, ⟨some 11, .mov (.t 0), none⟩) ::
   (1, ⟨some 12, .call 22 [(.t 11)], none⟩) ::
   o9_3_1
theorem h9_3 : wS fs out b o9_3 t h R = (wV fs out (b + 0) noT h (.mov (.k (t 0))) fun x11_0 h => wV fs out (b + 1) noT h (.call 22 [(.k x11_0)]) fun x12_1 h => wS fs out b o9_3_1 (upd (upd t 11 x11_0) 12 x12_1) h R) := by kernel_rfl
def c9_3 : ACode := .region (o9_3.map (·.2)) [0, 1, 2] []
theorem s9_3 (h : wS fs out s.h.nx o9_3 s.t ⟨s.h.o, s.h.nx + 3⟩ (Q .normal)) : wC fs out c9_3 s Q := wC_region rfl rfl h
def o9_5 : List (Nat × AOper) := (0, ⟨some 13, .mks 26 3 24 [(.int .i64 0), (.int .i64 0), (.int .i64 0)] (.k (.v (.one (.int .i64 3)))) (.k (.v (.one (.int .i64 3)))), none⟩) ::
   (1, ⟨some 4, .mov (.t 13), none⟩) ::
   []
theorem h9_5 : wS fs out b o9_5 t h R = (wV fs out (b + 0) noT h (.mks 26 3 24 [(.int .i64 0), (.int .i64 0), (.int .i64 0)] (.k (.v (.one (.int .i64 3)))) (.k (.v (.one (.int .i64 3))))) fun x13_0 h => wV fs out (b + 1) noT h (.mov (.k x13_0)) fun x4_1 h => R ⟨(upd (upd t 13 x13_0) 4 x4_1), h⟩) := by kernel_rfl
def c9_5 : ACode := .region (o9_5.map (·.2)) [0, 1] []
theorem s9_5 (h : wS fs out s.h.nx o9_5 s.t ⟨s.h.o, s.h.nx + 2⟩ (Q .normal)) : wC fs out c9_5 s Q := wC_region rfl rfl h
def o9_8 : List (Nat × AOper) := (0, ⟨some 14, .mov (.t 3), none⟩) ::
   (1, ⟨some 15, .len (.t 14), none⟩) ::
   (2, ⟨some 16, .mov (.k (.v (.one (.int .i64 0)))), none⟩) ::
   []
theorem h9_8 : wS fs out b o9_8 t h R = (wV fs out (b + 0) noT h (.mov (.k (t 3))) fun x14_0 h => wV fs out (b + 1) noT h (.len (.k x14_0)) fun x15_1 h => wV fs out (b + 2) noT h (.mov (.k (.v (.one (.int .i64 0))))) fun x16_2 h => R ⟨(upd (upd (upd t 14 x14_0) 15 x15_1) 16 x16_2), h⟩) := by kernel_rfl
def c9_8 : ACode := .region (o9_8.map (·.2)) [0, 1, 2] []
theorem s9_8 (h : wS fs out s.h.nx o9_8 s.t ⟨s.h.o, s.h.nx + 3⟩ (Q .normal)) : wC fs out c9_8 s Q := wC_region rfl rfl h
def o9_12 : List (Nat × AOper) := (0, ⟨some 17, .bin .lss (.t 16) (.t 15), none⟩) ::
   []
theorem h9_12 : wS fs out b o9_12 t h R = (wV fs out (b + 0) noT h (.bin .lss (.k (t 16)) (.k (t 15))) fun x17_0 h => R ⟨(upd t 17 x17_0), h⟩) := by kernel_rfl
def c9_12 : ACode := .region (o9_12.map (·.2)) [0] []
theorem s9_12 (h : wS fs out s.h.nx o9_12 s.t ⟨s.h.o, s.h.nx + 1⟩ (Q .normal)) : wC fs out c9_12 s Q := wC_region rfl rfl h
def c9_14 : ACode := .cond (.t 17) .skip (.exit 0) [3, 4, 14, 15, 16]
theorem s9_14 (h : onC (s.t 17) (Q .normal (keepOnly [3, 4, 14, 15, 16] s)) (Q (.exit 0) (keepOnly [3, 4, 14, 15, 16] s))) : wC fs out c9_14 s Q := wC_condC (by first | exact h | (simp only [wC_skip, wC_exit, wC_ret]; exact h))
def o9_18 : List (Nat × AOper) := (0, ⟨some 18, .iadr 4 (.t 14) (.t 16), none⟩) ::
   (1, ⟨some 19, .load (some 4) (.t 18), none⟩) ::
   (2, ⟨some 6, .new 31 [(.int .i64 0), (.bool false), (.int .i64 0), (.int .i64 0)], none⟩) ::
   (3, ⟨none, .store 4 (.t 6) (.t 19), none⟩) ::
   []
theorem h9_18 : wS fs out b o9_18 t h R = (wV fs out (b + 0) noT h (.iadr 4 (.k (t 14)) (.k (t 16))) fun x18_0 h => wV fs out (b + 1) noT h (.load (some 4) (.k x18_0)) fun x19_1 h => wV fs out (b + 2) noT h (.new 31 [(.int .i64 0), (.bool false), (.int .i64 0), (.int .i64 0)]) fun x6_2 h => wV fs out (b + 3) noT h (.store 4 (.k x6_2) (.k x19_1)) fun _ h => R ⟨(upd (upd (upd t 18 x18_0) 19 x19_1) 6 x6_2), h⟩) := by kernel_rfl
def c9_18 : ACode := .region (o9_18.map (·.2)) [0, 1, 2, 3] []
theorem s9_18 (h : wS fs out s.h.nx o9_18 s.t ⟨s.h.o, s.h.nx + 4⟩ (Q .normal)) : wC fs out c9_18 s Q := wC_region rfl rfl h
def c9_19 : ACode := .region [⟨some 20, .mov (.t 4), none⟩,
   ⟨some 21, .fadr 0 (.t 6), none⟩,
   ⟨some 22, .load none (.t 21), none⟩,
   ⟨some 23, .mov (.t 4), none⟩,
   ⟨some 24, .fadr 0 (.t 6), none⟩,
   ⟨some 25, .load none (.t 24), none⟩,
   ⟨some 26, .iadr 3 (.t 23) (.t 25), none⟩,
   ⟨some 27, .load (some 3) (.t 26), none⟩,
   ⟨some 28, .load (some 4) (.t 6), none⟩,
   ⟨some 29, .call 14 [(.t 27), (.t 28)], none⟩,
   ⟨some 30, .iadr 3 (.t 20) (.t 22), none⟩,
   ⟨none, .store 3 (.t 30) (.t 29), none⟩] [0, 1, 2, 3, 4, 5, 6, 7, 8, 9, 10, 11] [(9, [2])]
def o9_19 : List (Nat × AOper) := (0, ⟨some 20, .mov (.t 4), none⟩) ::
   (1, ⟨some 21, .fadr 0 (.t 6), none⟩) ::
   (2, ⟨some 22, .load none (.t 21), none⟩) ::
   (3, ⟨some 23, .mov (.t 4), none⟩) ::
   (4, ⟨some 24, .fadr 0 (.t 6), none⟩) ::
   (5, ⟨some 25, .load none (.t 24), none⟩) ::
   (6, ⟨some 26, .iadr 3 (.t 23) (.t 25), none⟩) ::
   (7, ⟨some 27, .load (some 3) (.t 26), none⟩) ::
   (8, ⟨some 28, .load (some 4) (.t 6), none⟩) ::
   (9, ⟨some 29, .call 14 [(.t 27), (.t 28)], none⟩) ::
   []
theorem h9_19 : wS fs out b o9_19 t h R = (wV fs out (b + 0) noT h (.mov (.k (t 4))) fun x20_0 h => wV fs out (b + 1) noT h (.fadr 0 (.k (t 6))) fun x21_1 h => wV fs out (b + 2) noT h (.load none (.k x21_1)) fun x22_2 h => wV fs out (b + 3) noT h (.mov (.k (t 4))) fun x23_3 h => wV fs out (b + 4) noT h (.fadr 0 (.k (t 6))) fun x24_4 h => wV fs out (b + 5) noT h (.load none (.k x24_4)) fun x25_5 h => wV fs out (b + 6) noT h (.iadr 3 (.k x23_3) (.k x25_5)) fun x26_6 h => wV fs out (b + 7) noT h (.load (some 3) (.k x26_6)) fun x27_7 h => wV fs out (b + 8) noT h (.load (some 4) (.k (t 6))) fun x28_8 h => wV fs out (b + 9) noT h (.call 14 [(.k x27_7), (.k x28_8)]) fun x29_9 h => R ⟨(upd (upd (upd (upd (upd (upd (upd (upd (upd (upd t 20 x20_0) 21 x21_1) 22 x22_2) 23 x23_3) 24 x24_4) 25 x25_5) 26 x26_6) 27 x27_7) 28 x28_8) 29 x29_9), h⟩) := by kernel_rfl
def o9_19h1 : List (Nat × AOper) := (10, ⟨some 30, .iadr 3 (.t 20) (.t 22), none⟩) ::
   (11, ⟨none, .store 3 (.t 30) (.t 29), none⟩) ::
   []
theorem h9_19h1 : wS fs out b o9_19h1 t h R = (wV fs out (b + 10) noT h (.iadr 3 (.k (t 20)) (.k (t 22))) fun x30_0 h => wV fs out (b + 11) noT h (.store 3 (.k x30_0) (.k (t 29))) fun _ h => R ⟨(upd t 30 x30_0), h⟩) := by kernel_rfl
theorem s9_19 (h : wS fs out s.h.nx o9_19 s.t ⟨s.h.o, s.h.nx + 12⟩ fun s1 => (holdOk s1 ⟨some 22, .load none (.t 21), none⟩ = true) ∧ wS fs out s.h.nx o9_19h1 s1.t s1.h (Q .normal)) : wC fs out c9_19 s Q := wC_regionP (wP_seg (run := [0, 1, 2, 3, 4, 5, 6, 7, 8]) (i0 := 9) (rest := [10, 11]) rfl rfl rfl (wS_mono _ h fun s1 hh1 => ⟨by simpa [and_assoc, holdsB, holdsOf] using hh1.1, (wP_end (run := [10, 11]) rfl rfl rfl hh1.2)⟩))
def c9_17 : ACode := .seq c9_18 c9_19
theorem s9_17 (h : wS fs out s.h.nx o9_18 s.t ⟨s.h.o, s.h.nx + 4⟩ fun s1 => wC fs out c9_19 s1 Q) : wC fs out c9_17 s Q := wC_seq (s9_18 h)
def c9_16 : ACode := .block 1 c9_17
theorem s9_16 (h : wC fs out c9_17 s fun e s1 => Q (if e = .exit 1 then .normal else e) s1) : wC fs out c9_16 s Q := wC_block h
def o9_20 : List (Nat × AOper) := (0, ⟨some 31, .bin .add (.t 16) (.k (.v (.one (.int .i64 1)))), none⟩) ::
   (1, ⟨some 16, .mov (.t 31), none⟩) ::
   []
theorem h9_20 : wS fs out b o9_20 t h R = (wV fs out (b + 0) noT h (.bin .add (.k (t 16)) (.k (.v (.one (.int .i64 1))))) fun x31_0 h => wV fs out (b + 1) noT h (.mov (.k x31_0)) fun x16_1 h => R ⟨(upd (upd t 31 x31_0) 16 x16_1), h⟩) := by kernel_rfl
def c9_20 : ACode := .region (o9_20.map (·.2)) [0, 1] []
theorem s9_20 (h : wS fs out s.h.nx o9_20 s.t ⟨s.h.o, s.h.nx + 2⟩ (Q .normal)) : wC fs out c9_20 s Q := wC_region rfl rfl h
def c9_15 : ACode := .seq c9_16 c9_20
theorem s9_15 (h : wC fs out c9_16 s fun e s1 => match e with | .normal => wC fs out c9_20 s1 Q | e => Q e s1) : wC fs out c9_15 s Q := wC_seq h
def c9_13 : ACode := .seq c9_14 c9_15
theorem s9_13 (h : onC (s.t 17) (wC fs out c9_15 (keepOnly [3, 4, 14, 15, 16] s) Q) (Q (.exit 0) (keepOnly [3, 4, 14, 15, 16] s))) : wC fs out c9_13 s Q := wC_seq (s9_14 h)
def c9_11 : ACode := .seq c9_12 c9_13
theorem s9_11 (h : wS fs out s.h.nx o9_12 s.t ⟨s.h.o, s.h.nx + 1⟩ fun s1 => wC fs out c9_13 s1 Q) : wC fs out c9_11 s Q := wC_seq (s9_12 h)
def c9_10 : ACode := .loop [3, 4, 14, 15, 16] c9_11
theorem s9_10 (I : Nat → St → Prop) (n : Nat) (h0 : I n (keepOnly [3, 4, 14, 15, 16] s)) (step : ∀ m s (Q' : AExit → St → Prop), I m s → (∀ m' s1, m' < m → I m' (keepOnly [3, 4, 14, 15, 16] s1) → Q' .normal s1) → (∀ i s1, Q (.exit i) s1 → Q' (.exit i) s1) → (∀ s1, Q .ret s1 → Q' .ret s1) → wC fs out c9_11 s Q') : wC fs out c9_10 s Q := wC_loopQ I n h0 step
def c9_9 : ACode := .block 0 c9_10
theorem s9_9 (h : wC fs out c9_10 s fun e s1 => Q (if e = .exit 0 then .normal else e) s1) : wC fs out c9_9 s Q := wC_block h
def c9_7 : ACode := .seq c9_8 c9_9
theorem s9_7 (h : wS fs out s.h.nx o9_8 s.t ⟨s.h.o, s.h.nx + 3⟩ fun s1 => wC fs out c9_9 s1 Q) : wC fs out c9_7 s Q := wC_seq (s9_8 h)
def o9_22_1 : List (Nat × AOper) := (2, ⟨some 32, .mov (.t 34), none⟩) ::
   (3, ⟨some 35, .ext 0 (.t 32), none⟩) ::
   (4, ⟨some 36, .ext 1 (.t 32), none⟩) ::
   (5, ⟨some 7, .mov (.t 35), none⟩) ::
   (6, ⟨some 8, .mov (.t 36), none⟩) ::
   []
theorem h9_22_1 : wS fs out b o9_22_1 t h R = (wV fs out (b + 2) noT h (.mov (.k (t 34))) fun x32_0 h => wV fs out (b + 3) noT h (.ext 0 (.k x32_0)) fun x35_1 h => wV fs out (b + 4) noT h (.ext 1 (.k x32_0)) fun x36_2 h => wV fs out (b + 5) noT h (.mov (.k x35_1)) fun x7_3 h => wV fs out (b + 6) noT h (.mov (.k x36_2)) fun x8_4 h => R ⟨(upd (upd (upd (upd (upd t 32 x32_0) 35 x35_1) 36 x36_2) 7 x7_3) 8 x8_4), h⟩) := by kernel_rfl
def o9_22 : List (Nat × AOper) := (0, ⟨some 33, .mov (.t 3), none⟩) ::
   (1, ⟨some 34, .call 23 [(.k (.v (.one (.int .i64 3)))), (.t 33)], none⟩) ::
   o9_22_1
theorem h9_22 : wS fs out b o9_22 t h R = (wV fs out (b + 0) noT h (.mov (.k (t 3))) fun x33_0 h => wV fs out (b + 1) noT h (.call 23 [(.k (.v (.one (.int .i64 3)))), (.k x33_0)]) fun x34_1 h => wS fs out b o9_22_1 (upd (upd t 33 x33_0) 34 x34_1) h R) := by kernel_rfl
def c9_22 : ACode := .region (o9_22.map (·.2)) [0, 1, 2, 3, 4, 5, 6] []
theorem s9_22 (h : wS fs out s.h.nx o9_22 s.t ⟨s.h.o, s.h.nx + 7⟩ (Q .normal)) : wC fs out c9_22 s Q := wC_region rfl rfl h
def o9_24_1 : List (Nat × AOper) := (2, ⟨some 37, .mov (.t 39), none⟩) ::
   (3, ⟨some 40, .ext 0 (.t 37), none⟩) ::
   (4, ⟨some 41, .ext 1 (.t 37), none⟩) ::
   (5, ⟨some 9, .mov (.t 40), none⟩) ::
   (6, ⟨some 10, .mov (.t 41), none⟩) ::
   []
theorem h9_24_1 : wS fs out b o9_24_1 t h R = (wV fs out (b + 2) noT h (.mov (.k (t 39))) fun x37_0 h => wV fs out (b + 3) noT h (.ext 0 (.k x37_0)) fun x40_1 h => wV fs out (b + 4) noT h (.ext 1 (.k x37_0)) fun x41_2 h => wV fs out (b + 5) noT h (.mov (.k x40_1)) fun x9_3 h => wV fs out (b + 6) noT h (.mov (.k x41_2)) fun x10_4 h => R ⟨(upd (upd (upd (upd (upd t 37 x37_0) 40 x40_1) 41 x41_2) 9 x9_3) 10 x10_4), h⟩) := by kernel_rfl
def o9_24 : List (Nat × AOper) := (0, ⟨some 38, .mov (.t 3), none⟩) ::
   (1, ⟨some 39, .call 24 [(.k (.v (.one (.int .i64 3)))), (.t 38)], none⟩) ::
   o9_24_1
theorem h9_24 : wS fs out b o9_24 t h R = (wV fs out (b + 0) noT h (.mov (.k (t 3))) fun x38_0 h => wV fs out (b + 1) noT h (.call 24 [(.k (.v (.one (.int .i64 3)))), (.k x38_0)]) fun x39_1 h => wS fs out b o9_24_1 (upd (upd t 38 x38_0) 39 x39_1) h R) := by kernel_rfl
def c9_24 : ACode := .region (o9_24.map (·.2)) [0, 1, 2, 3, 4, 5, 6] []
theorem s9_24 (h : wS fs out s.h.nx o9_24 s.t ⟨s.h.o, s.h.nx + 7⟩ (Q .normal)) : wC fs out c9_24 s Q := wC_region rfl rfl h
def o9_26_9 : List (Nat × AOper) := (18, ⟨some 60, .pick (.t 56) (.t 59) (.k (.v (.one (.bool false)))), none⟩) ::
   (19, ⟨some 2, .mov (.t 60), none⟩) ::
   []
theorem h9_26_9 : wS fs out b o9_26_9 t h R = (wV fs out (b + 18) noT h (.pick (.k (t 56)) (.k (t 59)) (.k (.v (.one (.bool false))))) fun x60_0 h => wV fs out (b + 19) noT h (.mov (.k x60_0)) fun x2_1 h => R ⟨(upd (upd t 60 x60_0) 2 x2_1), h⟩) := by kernel_rfl
def o9_26_8g : List (Nat × AOper) := (15, ⟨some 57, .mov (.t 7), none⟩) ::
   (16, ⟨some 58, .mov (.t 9), none⟩) ::
   (17, ⟨some 59, .call 25 [(.t 57), (.t 58)], none⟩) ::
   []
theorem h9_26_8g : wS fs out b o9_26_8g t h R = (wV fs out (b + 15) noT h (.mov (.k (t 7))) fun x57_0 h => wV fs out (b + 16) noT h (.mov (.k (t 9))) fun x58_1 h => wV fs out (b + 17) noT h (.call 25 [(.k x57_0), (.k x58_1)]) fun x59_2 h => R ⟨(upd (upd (upd t 57 x57_0) 58 x58_1) 59 x59_2), h⟩) := by kernel_rfl
def o9_26_8 : List (Nat × AOper) := grp 56 true o9_26_8g o9_26_9
theorem w9_26_8 : wS fs out b o9_26_8 t h R = onG (t 56) true (wS fs out b o9_26_8g (upd t 56 (.v (.one (.bool true)))) h fun s => wS fs out b o9_26_9 s.t s.h R) (wS fs out b o9_26_9 (upd (upd (upd (upd t 56 (.v (.one (.bool false)))) 57 (.tup [])) 58 (.tup [])) 59 (.tup [])) h R) (wS fs out b o9_26_9 (upd (upd (upd t 57 (.tup [])) 58 (.tup [])) 59 (.tup [])) h R) := wS_grpE rfl
def o9_26_7 : List (Nat × AOper) := (13, ⟨some 55, .pick (.t 51) (.t 54) (.k (.v (.one (.bool false)))), none⟩) ::
   (14, ⟨some 56, .mov (.t 55), none⟩) ::
   o9_26_8
theorem h9_26_7 : wS fs out b o9_26_7 t h R = (wV fs out (b + 13) noT h (.pick (.k (t 51)) (.k (t 54)) (.k (.v (.one (.bool false))))) fun x55_0 h => wV fs out (b + 14) noT h (.mov (.k x55_0)) fun x56_1 h => wS fs out b o9_26_8 (upd (upd t 55 x55_0) 56 x56_1) h R) := by kernel_rfl
def o9_26_6g : List (Nat × AOper) := (10, ⟨some 52, .mov (.t 7), none⟩) ::
   (11, ⟨some 53, .mov (.t 4), none⟩) ::
   (12, ⟨some 54, .call 25 [(.t 52), (.t 53)], none⟩) ::
   []
theorem h9_26_6g : wS fs out b o9_26_6g t h R = (wV fs out (b + 10) noT h (.mov (.k (t 7))) fun x52_0 h => wV fs out (b + 11) noT h (.mov (.k (t 4))) fun x53_1 h => wV fs out (b + 12) noT h (.call 25 [(.k x52_0), (.k x53_1)]) fun x54_2 h => R ⟨(upd (upd (upd t 52 x52_0) 53 x53_1) 54 x54_2), h⟩) := by kernel_rfl
def o9_26_6 : List (Nat × AOper) := grp 51 true o9_26_6g o9_26_7
theorem w9_26_6 : wS fs out b o9_26_6 t h R = onG (t 51) true (wS fs out b o9_26_6g (upd t 51 (.v (.one (.bool true)))) h fun s => wS fs out b o9_26_7 s.t s.h R) (wS fs out b o9_26_7 (upd (upd (upd (upd t 51 (.v (.one (.bool false)))) 52 (.tup [])) 53 (.tup [])) 54 (.tup [])) h R) (wS fs out b o9_26_7 (upd (upd (upd t 52 (.tup [])) 53 (.tup [])) 54 (.tup [])) h R) := wS_grpE rfl
def o9_26_5 : List (Nat × AOper) := (8, ⟨some 50, .pick (.t 47) (.t 49) (.k (.v (.one (.bool false)))), none⟩) ::
   (9, ⟨some 51, .mov (.t 50), none⟩) ::
   o9_26_6
theorem h9_26_5 : wS fs out b o9_26_5 t h R = (wV fs out (b + 8) noT h (.pick (.k (t 47)) (.k (t 49)) (.k (.v (.one (.bool false))))) fun x50_0 h => wV fs out (b + 9) noT h (.mov (.k x50_0)) fun x51_1 h => wS fs out b o9_26_6 (upd (upd t 50 x50_0) 51 x51_1) h R) := by kernel_rfl
def o9_26_4g : List (Nat × AOper) := (6, ⟨some 48, .mov (.t 10), none⟩) ::
   (7, ⟨some 49, .bin .eql (.t 48) (.k (.v (.one (.int .i64 0)))), none⟩) ::
   []
theorem h9_26_4g : wS fs out b o9_26_4g t h R = (wV fs out (b + 6) noT h (.mov (.k (t 10))) fun x48_0 h => wV fs out (b + 7) noT h (.bin .eql (.k x48_0) (.k (.v (.one (.int .i64 0))))) fun x49_1 h => R ⟨(upd (upd t 48 x48_0) 49 x49_1), h⟩) := by kernel_rfl
def o9_26_4 : List (Nat × AOper) := grp 47 true o9_26_4g o9_26_5
theorem w9_26_4 : wS fs out b o9_26_4 t h R = onG (t 47) true (wS fs out b o9_26_4g (upd t 47 (.v (.one (.bool true)))) h fun s => wS fs out b o9_26_5 s.t s.h R) (wS fs out b o9_26_5 (upd (upd (upd t 47 (.v (.one (.bool false)))) 48 (.tup [])) 49 (.tup [])) h R) (wS fs out b o9_26_5 (upd (upd t 48 (.tup [])) 49 (.tup [])) h R) := wS_grpE rfl
def o9_26_3 : List (Nat × AOper) := (4, ⟨some 46, .pick (.t 43) (.t 45) (.k (.v (.one (.bool false)))), none⟩) ::
   (5, ⟨some 47, .mov (.t 46), none⟩) ::
   o9_26_4
theorem h9_26_3 : wS fs out b o9_26_3 t h R = (wV fs out (b + 4) noT h (.pick (.k (t 43)) (.k (t 45)) (.k (.v (.one (.bool false))))) fun x46_0 h => wV fs out (b + 5) noT h (.mov (.k x46_0)) fun x47_1 h => wS fs out b o9_26_4 (upd (upd t 46 x46_0) 47 x47_1) h R) := by kernel_rfl
def o9_26_2g : List (Nat × AOper) := (2, ⟨some 44, .mov (.t 8), none⟩) ::
   (3, ⟨some 45, .bin .eql (.t 44) (.k (.v (.one (.int .i64 0)))), none⟩) ::
   []
theorem h9_26_2g : wS fs out b o9_26_2g t h R = (wV fs out (b + 2) noT h (.mov (.k (t 8))) fun x44_0 h => wV fs out (b + 3) noT h (.bin .eql (.k x44_0) (.k (.v (.one (.int .i64 0))))) fun x45_1 h => R ⟨(upd (upd t 44 x44_0) 45 x45_1), h⟩) := by kernel_rfl
def o9_26_2 : List (Nat × AOper) := grp 43 true o9_26_2g o9_26_3
theorem w9_26_2 : wS fs out b o9_26_2 t h R = onG (t 43) true (wS fs out b o9_26_2g (upd t 43 (.v (.one (.bool true)))) h fun s => wS fs out b o9_26_3 s.t s.h R) (wS fs out b o9_26_3 (upd (upd (upd t 43 (.v (.one (.bool false)))) 44 (.tup [])) 45 (.tup [])) h R) (wS fs out b o9_26_3 (upd (upd t 44 (.tup [])) 45 (.tup [])) h R) := wS_grpE rfl
def o9_26_1 : List (Nat × AOper) := (1, ⟨some 43, .mov (.t 42), none⟩) ::
   o9_26_2
theorem h9_26_1 : wS fs out b o9_26_1 t h R = (wV fs out (b + 1) noT h (.mov (.k (t 42))) fun x43_0 h => wS fs out b o9_26_2 (upd t 43 x43_0) h R) := by kernel_rfl
def o9_26 : List (Nat × AOper) := (0, ⟨some 42, .call 16 [], none⟩) ::
   o9_26_1
theorem h9_26 : wS fs out b o9_26 t h R = (wV fs out (b + 0) noT h (.call 16 []) fun x42_0 h => wS fs out b o9_26_1 (upd t 42 x42_0) h R) := by kernel_rfl
def c9_26 : ACode := .region (o9_26.map (·.2)) [0, 1, 2, 3, 4, 5, 6, 7, 8, 9, 10, 11, 12, 13, 14, 15, 16, 17, 18, 19] []
theorem s9_26 (h : wS fs out s.h.nx o9_26 s.t ⟨s.h.o, s.h.nx + 20⟩ (Q .normal)) : wC fs out c9_26 s Q := wC_region rfl rfl h
def c9_25 : ACode := .seq c9_26 .ret
theorem s9_25 (h : wS fs out s.h.nx o9_26 s.t ⟨s.h.o, s.h.nx + 20⟩ fun s1 => wC fs out .ret s1 Q) : wC fs out c9_25 s Q := wC_seq (s9_26 h)
def c9_23 : ACode := .seq c9_24 c9_25
theorem s9_23 (h : wS fs out s.h.nx o9_24 s.t ⟨s.h.o, s.h.nx + 7⟩ fun s1 => wC fs out c9_25 s1 Q) : wC fs out c9_23 s Q := wC_seq (s9_24 h)
def c9_21 : ACode := .seq c9_22 c9_23
theorem s9_21 (h : wS fs out s.h.nx o9_22 s.t ⟨s.h.o, s.h.nx + 7⟩ fun s1 => wC fs out c9_23 s1 Q) : wC fs out c9_21 s Q := wC_seq (s9_22 h)
def c9_6 : ACode := .seq c9_7 c9_21
theorem s9_6 (h : wC fs out c9_7 s fun e s1 => match e with | .normal => wC fs out c9_21 s1 Q | e => Q e s1) : wC fs out c9_6 s Q := wC_seq h
def c9_4 : ACode := .seq c9_5 c9_6
theorem s9_4 (h : wS fs out s.h.nx o9_5 s.t ⟨s.h.o, s.h.nx + 2⟩ fun s1 => wC fs out c9_6 s1 Q) : wC fs out c9_4 s Q := wC_seq (s9_5 h)
def c9_2 : ACode := .seq c9_3 c9_4
theorem s9_2 (h : wS fs out s.h.nx o9_3 s.t ⟨s.h.o, s.h.nx + 3⟩ fun s1 => wC fs out c9_4 s1 Q) : wC fs out c9_2 s Q := wC_seq (s9_3 h)
def c9_0 : ACode := .seq c9_1 c9_2
theorem s9_0 (h : wS fs out s.h.nx o9_1 s.t ⟨s.h.o, s.h.nx + 1⟩ fun s1 => wC fs out c9_2 s1 Q) : wC fs out c9_0 s Q := wC_seq (s9_1 h)
def a9 : AFunc := ⟨1, [2], none, c9_0⟩
theorem t9 : tell Try.prog Try.f9 [([3, 4, 14, 15, 16], [], []), ([3, 4, 14, 15, 16], [], []), ([0, 1, 2, 3, 4, 5, 6, 7, 8, 9, 10, 11], [(9, [2])], [0, 0, 2, 0, 0, 16, 56, 120, 0, 504, 1023, 2047])] = some a9 := by kernel_rfl
theorem ok9 : FuncOk Try.prog 9 a9 := tell_ok Try.func9 t9

/-- railplan/railplanlaw31.DetectorRaw -/
def o10_1 : List (Nat × AOper) := (0, ⟨some 4, .box 26 3 (.t 0), none⟩) ::
   (1, ⟨some 5, .box 31 4 (.t 1), none⟩) ::
   (2, ⟨some 8, .mov (.k (.v (.one (.bool false)))), none⟩) ::
   []
theorem h10_1 : wS fs out b o10_1 t h R = (wV fs out (b + 0) noT h (.box 26 3 (.k (t 0))) fun x4_0 h => wV fs out (b + 1) noT h (.box 31 4 (.k (t 1))) fun x5_1 h => wV fs out (b + 2) noT h (.mov (.k (.v (.one (.bool false))))) fun x8_2 h => R ⟨(upd (upd (upd t 4 x4_0) 5 x5_1) 8 x8_2), h⟩) := by kernel_rfl
def c10_1 : ACode := .region (o10_1.map (·.2)) [0, 1, 2] []
theorem s10_1 (h : wS fs out s.h.nx o10_1 s.t ⟨s.h.o, s.h.nx + 3⟩ (Q .normal)) : wC fs out c10_1 s Q := wC_region rfl rfl h
def o10_3_1 : List (Nat × AOper) := (3, ⟨some 13, .mov (.t 16), none⟩) ::
   (4, ⟨some 17, .ext 0 (.t 13), none⟩) ::
   (5, ⟨some 18, .ext 1 (.t 13), none⟩) ::
   (6, ⟨some 9, .mov (.t 17), none⟩) ::
   (7, ⟨some 10, .mov (.t 18), none⟩) ::
   []
theorem h10_3_1 : wS fs out b o10_3_1 t h R = (wV fs out (b + 3) noT h (.mov (.k (t 16))) fun x13_0 h => wV fs out (b + 4) noT h (.ext 0 (.k x13_0)) fun x17_1 h => wV fs out (b + 5) noT h (.ext 1 (.k x13_0)) fun x18_2 h => wV fs out (b + 6) noT h (.mov (.k x17_1)) fun x9_3 h => wV fs out (b + 7) noT h (.mov (.k x18_2)) fun x10_4 h => R ⟨(upd (upd (upd (upd (upd t 13 x13_0) 17 x17_1) 18 x18_2) 9 x9_3) 10 x10_4), h⟩) := by kernel_rfl
def o10_3 : List (Nat × AOper) := (0, ⟨some 14, .mov (.t 2), none⟩) ::
   (1, ⟨some 15, .mov (.t 3), none⟩) ::
   (2, ⟨some 16, .call 23 [(.t 14), (.t 15)], none⟩) ::
   o10_3_1
theorem h10_3 : wS fs out b o10_3 t h R = (wV fs out (b + 0) noT h (.mov (.k (t 2))) fun x14_0 h => wV fs out (b + 1) noT h (.mov (.k (t 3))) fun x15_1 h => wV fs out (b + 2) noT h (.call 23 [(.k x14_0), (.k x15_1)]) fun x16_2 h => wS fs out b o10_3_1 (upd (upd (upd t 14 x14_0) 15 x15_1) 16 x16_2) h R) := by kernel_rfl
def c10_3 : ACode := .region (o10_3.map (·.2)) [0, 1, 2, 3, 4, 5, 6, 7] []
theorem s10_3 (h : wS fs out s.h.nx o10_3 s.t ⟨s.h.o, s.h.nx + 8⟩ (Q .normal)) : wC fs out c10_3 s Q := wC_region rfl rfl h
def o10_5_1 : List (Nat × AOper) := (3, ⟨some 19, .mov (.t 22), none⟩) ::
   (4, ⟨some 23, .ext 0 (.t 19), none⟩) ::
   (5, ⟨some 24, .ext 1 (.t 19), none⟩) ::
   (6, ⟨some 11, .mov (.t 23), none⟩) ::
   (7, ⟨some 12, .mov (.t 24), none⟩) ::
   []
theorem h10_5_1 : wS fs out b o10_5_1 t h R = (wV fs out (b + 3) noT h (.mov (.k (t 22))) fun x19_0 h => wV fs out (b + 4) noT h (.ext 0 (.k x19_0)) fun x23_1 h => wV fs out (b + 5) noT h (.ext 1 (.k x19_0)) fun x24_2 h => wV fs out (b + 6) noT h (.mov (.k x23_1)) fun x11_3 h => wV fs out (b + 7) noT h (.mov (.k x24_2)) fun x12_4 h => R ⟨(upd (upd (upd (upd (upd t 19 x19_0) 23 x23_1) 24 x24_2) 11 x11_3) 12 x12_4), h⟩) := by kernel_rfl
def o10_5 : List (Nat × AOper) := (0, ⟨some 20, .mov (.t 2), none⟩) ::
   (1, ⟨some 21, .mov (.t 3), none⟩) ::
   (2, ⟨some 22, .call 24 [(.t 20), (.t 21)], none⟩) ::
   o10_5_1
theorem h10_5 : wS fs out b o10_5 t h R = (wV fs out (b + 0) noT h (.mov (.k (t 2))) fun x20_0 h => wV fs out (b + 1) noT h (.mov (.k (t 3))) fun x21_1 h => wV fs out (b + 2) noT h (.call 24 [(.k x20_0), (.k x21_1)]) fun x22_2 h => wS fs out b o10_5_1 (upd (upd (upd t 20 x20_0) 21 x21_1) 22 x22_2) h R) := by kernel_rfl
def c10_5 : ACode := .region (o10_5.map (·.2)) [0, 1, 2, 3, 4, 5, 6, 7] []
theorem s10_5 (h : wS fs out s.h.nx o10_5 s.t ⟨s.h.o, s.h.nx + 8⟩ (Q .normal)) : wC fs out c10_5 s Q := wC_region rfl rfl h
def c10_7 : ACode := .region [⟨some 25, .call 16 [], none⟩,
   ⟨some 26, .mov (.t 25), none⟩,
   ⟨some 27, .load (some 3) (.t 4), some (26, true)⟩,
   ⟨some 28, .load (some 4) (.t 5), some (26, true)⟩,
   ⟨some 29, .call 14 [(.t 27), (.t 28)], some (26, true)⟩,
   ⟨some 30, .load (some 3) (.t 4), some (26, true)⟩,
   ⟨some 31, .load (some 4) (.t 5), some (26, true)⟩,
   ⟨some 32, .call 19 [(.t 30), (.t 31)], some (26, true)⟩,
   ⟨some 33, .eqs false [true, true, true] (.t 29) (.t 32), some (26, true)⟩,
   ⟨some 34, .pick (.t 26) (.t 33) (.k (.v (.one (.bool false)))), none⟩,
   ⟨some 35, .mov (.t 34), none⟩,
   ⟨some 36, .load (some 3) (.t 4), some (35, true)⟩,
   ⟨some 37, .call 18 [(.t 36)], some (35, true)⟩,
   ⟨some 38, .load (some 3) (.t 4), some (35, true)⟩,
   ⟨some 39, .call 21 [(.t 38)], some (35, true)⟩,
   ⟨some 40, .eqs false [true, true, true] (.t 37) (.t 39), some (35, true)⟩,
   ⟨some 41, .pick (.t 35) (.t 40) (.k (.v (.one (.bool false)))), none⟩,
   ⟨some 42, .mov (.t 41), none⟩,
   ⟨some 43, .load (some 3) (.t 4), some (42, true)⟩,
   ⟨some 44, .call 15 [(.t 43)], some (42, true)⟩,
   ⟨some 45, .load (some 3) (.t 4), some (42, true)⟩,
   ⟨some 46, .call 20 [(.t 45)], some (42, true)⟩,
   ⟨some 47, .bin .eql (.t 44) (.t 46), some (42, true)⟩,
   ⟨some 48, .pick (.t 42) (.t 47) (.k (.v (.one (.bool false)))), none⟩,
   ⟨some 49, .mov (.t 48), none⟩,
   ⟨some 50, .mov (.t 9), some (49, true)⟩,
   ⟨some 51, .mov (.t 11), some (49, true)⟩,
   ⟨some 52, .call 25 [(.t 50), (.t 51)], some (49, true)⟩,
   ⟨some 53, .pick (.t 49) (.t 52) (.k (.v (.one (.bool false)))), none⟩,
   ⟨some 54, .mov (.t 53), none⟩,
   ⟨some 55, .mov (.t 10), some (54, true)⟩,
   ⟨some 56, .mov (.t 12), some (54, true)⟩,
   ⟨some 57, .bin .eql (.t 55) (.t 56), some (54, true)⟩,
   ⟨some 58, .pick (.t 54) (.t 57) (.k (.v (.one (.bool false)))), none⟩,
   ⟨some 8, .mov (.t 58), none⟩] [0, 1, 2, 3, 5, 6, 4, 7, 8, 9, 10, 11, 13, 12, 14, 15, 16, 17, 18, 20, 19, 21, 22, 23, 24, 25, 26, 27, 28, 29, 30, 31, 32, 33, 34] [(4, [5, 6]), (12, [13]), (19, [20])]
def o10_7_3 : List (Nat × AOper) := []
def o10_7_2g : List (Nat × AOper) := (2, ⟨some 27, .load (some 3) (.t 4), none⟩) ::
   (3, ⟨some 28, .load (some 4) (.t 5), none⟩) ::
   (5, ⟨some 30, .load (some 3) (.t 4), none⟩) ::
   (6, ⟨some 31, .load (some 4) (.t 5), none⟩) ::
   (4, ⟨some 29, .call 14 [(.t 27), (.t 28)], none⟩) ::
   []
theorem h10_7_2g : wS fs out b o10_7_2g t h R = (wV fs out (b + 2) noT h (.load (some 3) (.k (t 4))) fun x27_0 h => wV fs out (b + 3) noT h (.load (some 4) (.k (t 5))) fun x28_1 h => wV fs out (b + 5) noT h (.load (some 3) (.k (t 4))) fun x30_2 h => wV fs out (b + 6) noT h (.load (some 4) (.k (t 5))) fun x31_3 h => wV fs out (b + 4) noT h (.call 14 [(.k x27_0), (.k x28_1)]) fun x29_4 h => R ⟨(upd (upd (upd (upd (upd t 27 x27_0) 28 x28_1) 30 x30_2) 31 x31_3) 29 x29_4), h⟩) := by kernel_rfl
def o10_7_2 : List (Nat × AOper) := grp 26 true o10_7_2g o10_7_3
theorem w10_7_2 : wS fs out b o10_7_2 t h R = onG (t 26) true (wS fs out b o10_7_2g (upd t 26 (.v (.one (.bool true)))) h fun s => wS fs out b o10_7_3 s.t s.h R) (wS fs out b o10_7_3 (upd (upd (upd (upd (upd (upd t 26 (.v (.one (.bool false)))) 27 (.tup [])) 28 (.tup [])) 30 (.tup [])) 31 (.tup [])) 29 (.tup [])) h R) (wS fs out b o10_7_3 (upd (upd (upd (upd (upd t 27 (.tup [])) 28 (.tup [])) 30 (.tup [])) 31 (.tup [])) 29 (.tup [])) h R) := wS_grpE rfl
def o10_7_1 : List (Nat × AOper) := (1, ⟨some 26, .mov (.t 25), none⟩) ::
   o10_7_2
theorem h10_7_1 : wS fs out b o10_7_1 t h R = (wV fs out (b + 1) noT h (.mov (.k (t 25))) fun x26_0 h => wS fs out b o10_7_2 (upd t 26 x26_0) h R) := by kernel_rfl
def o10_7 : List (Nat × AOper) := (0, ⟨some 25, .call 16 [], none⟩) ::
   o10_7_1
theorem h10_7 : wS fs out b o10_7 t h R = (wV fs out (b + 0) noT h (.call 16 []) fun x25_0 h => wS fs out b o10_7_1 (upd t 25 x25_0) h R) := by kernel_rfl
def o10_7h1_3 : List (Nat × AOper) := []
def o10_7h1_2g : List (Nat × AOper) := (11, ⟨some 36, .load (some 3) (.t 4), none⟩) ::
   (13, ⟨some 38, .load (some 3) (.t 4), none⟩) ::
   (12, ⟨some 37, .call 18 [(.t 36)], none⟩) ::
   []
theorem h10_7h1_2g : wS fs out b o10_7h1_2g t h R = (wV fs out (b + 11) noT h (.load (some 3) (.k (t 4))) fun x36_0 h => wV fs out (b + 13) noT h (.load (some 3) (.k (t 4))) fun x38_1 h => wV fs out (b + 12) noT h (.call 18 [(.k x36_0)]) fun x37_2 h => R ⟨(upd (upd (upd t 36 x36_0) 38 x38_1) 37 x37_2), h⟩) := by kernel_rfl
def o10_7h1_2 : List (Nat × AOper) := grp 35 true o10_7h1_2g o10_7h1_3
theorem w10_7h1_2 : wS fs out b o10_7h1_2 t h R = onG (t 35) true (wS fs out b o10_7h1_2g (upd t 35 (.v (.one (.bool true)))) h fun s => wS fs out b o10_7h1_3 s.t s.h R) (wS fs out b o10_7h1_3 (upd (upd (upd (upd t 35 (.v (.one (.bool false)))) 36 (.tup [])) 38 (.tup [])) 37 (.tup [])) h R) (wS fs out b o10_7h1_3 (upd (upd (upd t 36 (.tup [])) 38 (.tup [])) 37 (.tup [])) h R) := wS_grpE rfl
def o10_7h1_1 : List (Nat × AOper) := (9, ⟨some 34, .pick (.t 26) (.t 33) (.k (.v (.one (.bool false)))), none⟩) ::
   (10, ⟨some 35, .mov (.t 34), none⟩) ::
   o10_7h1_2
theorem h10_7h1_1 : wS fs out b o10_7h1_1 t h R = (wV fs out (b + 9) noT h (.pick (.k (t 26)) (.k (t 33)) (.k (.v (.one (.bool false))))) fun x34_0 h => wV fs out (b + 10) noT h (.mov (.k x34_0)) fun x35_1 h => wS fs out b o10_7h1_2 (upd (upd t 34 x34_0) 35 x35_1) h R) := by kernel_rfl
def o10_7h1g_1 : List (Nat × AOper) := (8, ⟨some 33, .eqs false [true, true, true] (.t 29) (.t 32), none⟩) ::
   []
theorem h10_7h1g_1 : wS fs out b o10_7h1g_1 t h R = (wV fs out (b + 8) noT h (.eqs false [true, true, true] (.k (t 29)) (.k (t 32))) fun x33_0 h => R ⟨(upd t 33 x33_0), h⟩) := by kernel_rfl
def o10_7h1g : List (Nat × AOper) := (7, ⟨some 32, .call 19 [(.t 30), (.t 31)], none⟩) ::
   o10_7h1g_1
theorem h10_7h1g : wS fs out b o10_7h1g t h R = (wV fs out (b + 7) noT h (.call 19 [(.k (t 30)), (.k (t 31))]) fun x32_0 h => wS fs out b o10_7h1g_1 (upd t 32 x32_0) h R) := by kernel_rfl
def o10_7h1 : List (Nat × AOper) := grp 26 true o10_7h1g o10_7h1_1
theorem w10_7h1 : wS fs out b o10_7h1 t h R = onG (t 26) true (wS fs out b o10_7h1g (upd t 26 (.v (.one (.bool true)))) h fun s => wS fs out b o10_7h1_1 s.t s.h R) (wS fs out b o10_7h1_1 (upd (upd (upd t 26 (.v (.one (.bool false)))) 32 (.tup [])) 33 (.tup [])) h R) (wS fs out b o10_7h1_1 (upd (upd t 32 (.tup [])) 33 (.tup [])) h R) := wS_grpE rfl
def o10_7h2_3 : List (Nat × AOper) := []
def o10_7h2_2g : List (Nat × AOper) := (18, ⟨some 43, .load (some 3) (.t 4), none⟩) ::
   (20, ⟨some 45, .load (some 3) (.t 4), none⟩) ::
   (19, ⟨some 44, .call 15 [(.t 43)], none⟩) ::
   []
theorem h10_7h2_2g : wS fs out b o10_7h2_2g t h R = (wV fs out (b + 18) noT h (.load (some 3) (.k (t 4))) fun x43_0 h => wV fs out (b + 20) noT h (.load (some 3) (.k (t 4))) fun x45_1 h => wV fs out (b + 19) noT h (.call 15 [(.k x43_0)]) fun x44_2 h => R ⟨(upd (upd (upd t 43 x43_0) 45 x45_1) 44 x44_2), h⟩) := by kernel_rfl
def o10_7h2_2 : List (Nat × AOper) := grp 42 true o10_7h2_2g o10_7h2_3
theorem w10_7h2_2 : wS fs out b o10_7h2_2 t h R = onG (t 42) true (wS fs out b o10_7h2_2g (upd t 42 (.v (.one (.bool true)))) h fun s => wS fs out b o10_7h2_3 s.t s.h R) (wS fs out b o10_7h2_3 (upd (upd (upd (upd t 42 (.v (.one (.bool false)))) 43 (.tup [])) 45 (.tup [])) 44 (.tup [])) h R) (wS fs out b o10_7h2_3 (upd (upd (upd t 43 (.tup [])) 45 (.tup [])) 44 (.tup [])) h R) := wS_grpE rfl
def o10_7h2_1 : List (Nat × AOper) := (16, ⟨some 41, .pick (.t 35) (.t 40) (.k (.v (.one (.bool false)))), none⟩) ::
   (17, ⟨some 42, .mov (.t 41), none⟩) ::
   o10_7h2_2
theorem h10_7h2_1 : wS fs out b o10_7h2_1 t h R = (wV fs out (b + 16) noT h (.pick (.k (t 35)) (.k (t 40)) (.k (.v (.one (.bool false))))) fun x41_0 h => wV fs out (b + 17) noT h (.mov (.k x41_0)) fun x42_1 h => wS fs out b o10_7h2_2 (upd (upd t 41 x41_0) 42 x42_1) h R) := by kernel_rfl
def o10_7h2g_1 : List (Nat × AOper) := (15, ⟨some 40, .eqs false [true, true, true] (.t 37) (.t 39), none⟩) ::
   []
theorem h10_7h2g_1 : wS fs out b o10_7h2g_1 t h R = (wV fs out (b + 15) noT h (.eqs false [true, true, true] (.k (t 37)) (.k (t 39))) fun x40_0 h => R ⟨(upd t 40 x40_0), h⟩) := by kernel_rfl
def o10_7h2g : List (Nat × AOper) := (14, ⟨some 39, .call 21 [(.t 38)], none⟩) ::
   o10_7h2g_1
theorem h10_7h2g : wS fs out b o10_7h2g t h R = (wV fs out (b + 14) noT h (.call 21 [(.k (t 38))]) fun x39_0 h => wS fs out b o10_7h2g_1 (upd t 39 x39_0) h R) := by kernel_rfl
def o10_7h2 : List (Nat × AOper) := grp 35 true o10_7h2g o10_7h2_1
theorem w10_7h2 : wS fs out b o10_7h2 t h R = onG (t 35) true (wS fs out b o10_7h2g (upd t 35 (.v (.one (.bool true)))) h fun s => wS fs out b o10_7h2_1 s.t s.h R) (wS fs out b o10_7h2_1 (upd (upd (upd t 35 (.v (.one (.bool false)))) 39 (.tup [])) 40 (.tup [])) h R) (wS fs out b o10_7h2_1 (upd (upd t 39 (.tup [])) 40 (.tup [])) h R) := wS_grpE rfl
def o10_7h3_5 : List (Nat × AOper) := (33, ⟨some 58, .pick (.t 54) (.t 57) (.k (.v (.one (.bool false)))), none⟩) ::
   (34, ⟨some 8, .mov (.t 58), none⟩) ::
   []
theorem h10_7h3_5 : wS fs out b o10_7h3_5 t h R = (wV fs out (b + 33) noT h (.pick (.k (t 54)) (.k (t 57)) (.k (.v (.one (.bool false))))) fun x58_0 h => wV fs out (b + 34) noT h (.mov (.k x58_0)) fun x8_1 h => R ⟨(upd (upd t 58 x58_0) 8 x8_1), h⟩) := by kernel_rfl
def o10_7h3_4g : List (Nat × AOper) := (30, ⟨some 55, .mov (.t 10), none⟩) ::
   (31, ⟨some 56, .mov (.t 12), none⟩) ::
   (32, ⟨some 57, .bin .eql (.t 55) (.t 56), none⟩) ::
   []
theorem h10_7h3_4g : wS fs out b o10_7h3_4g t h R = (wV fs out (b + 30) noT h (.mov (.k (t 10))) fun x55_0 h => wV fs out (b + 31) noT h (.mov (.k (t 12))) fun x56_1 h => wV fs out (b + 32) noT h (.bin .eql (.k x55_0) (.k x56_1)) fun x57_2 h => R ⟨(upd (upd (upd t 55 x55_0) 56 x56_1) 57 x57_2), h⟩) := by kernel_rfl
def o10_7h3_4 : List (Nat × AOper) := grp 54 true o10_7h3_4g o10_7h3_5
theorem w10_7h3_4 : wS fs out b o10_7h3_4 t h R = onG (t 54) true (wS fs out b o10_7h3_4g (upd t 54 (.v (.one (.bool true)))) h fun s => wS fs out b o10_7h3_5 s.t s.h R) (wS fs out b o10_7h3_5 (upd (upd (upd (upd t 54 (.v (.one (.bool false)))) 55 (.tup [])) 56 (.tup [])) 57 (.tup [])) h R) (wS fs out b o10_7h3_5 (upd (upd (upd t 55 (.tup [])) 56 (.tup [])) 57 (.tup [])) h R) := wS_grpE rfl
def o10_7h3_3 : List (Nat × AOper) := (28, ⟨some 53, .pick (.t 49) (.t 52) (.k (.v (.one (.bool false)))), none⟩) ::
   (29, ⟨some 54, .mov (.t 53), none⟩) ::
   o10_7h3_4
theorem h10_7h3_3 : wS fs out b o10_7h3_3 t h R = (wV fs out (b + 28) noT h (.pick (.k (t 49)) (.k (t 52)) (.k (.v (.one (.bool false))))) fun x53_0 h => wV fs out (b + 29) noT h (.mov (.k x53_0)) fun x54_1 h => wS fs out b o10_7h3_4 (upd (upd t 53 x53_0) 54 x54_1) h R) := by kernel_rfl
def o10_7h3_2g : List (Nat × AOper) := (25, ⟨some 50, .mov (.t 9), none⟩) ::
   (26, ⟨some 51, .mov (.t 11), none⟩) ::
   (27, ⟨some 52, .call 25 [(.t 50), (.t 51)], none⟩) ::
   []
theorem h10_7h3_2g : wS fs out b o10_7h3_2g t h R = (wV fs out (b + 25) noT h (.mov (.k (t 9))) fun x50_0 h => wV fs out (b + 26) noT h (.mov (.k (t 11))) fun x51_1 h => wV fs out (b + 27) noT h (.call 25 [(.k x50_0), (.k x51_1)]) fun x52_2 h => R ⟨(upd (upd (upd t 50 x50_0) 51 x51_1) 52 x52_2), h⟩) := by kernel_rfl
def o10_7h3_2 : List (Nat × AOper) := grp 49 true o10_7h3_2g o10_7h3_3
theorem w10_7h3_2 : wS fs out b o10_7h3_2 t h R = onG (t 49) true (wS fs out b o10_7h3_2g (upd t 49 (.v (.one (.bool true)))) h fun s => wS fs out b o10_7h3_3 s.t s.h R) (wS fs out b o10_7h3_3 (upd (upd (upd (upd t 49 (.v (.one (.bool false)))) 50 (.tup [])) 51 (.tup [])) 52 (.tup [])) h R) (wS fs out b o10_7h3_3 (upd (upd (upd t 50 (.tup [])) 51 (.tup [])) 52 (.tup [])) h R) := wS_grpE rfl
def o10_7h3_1 : List (Nat × AOper) := (23, ⟨some 48, .pick (.t 42) (.t 47) (.k (.v (.one (.bool false)))), none⟩) ::
   (24, ⟨some 49, .mov (.t 48), none⟩) ::
   o10_7h3_2
theorem h10_7h3_1 : wS fs out b o10_7h3_1 t h R = (wV fs out (b + 23) noT h (.pick (.k (t 42)) (.k (t 47)) (.k (.v (.one (.bool false))))) fun x48_0 h => wV fs out (b + 24) noT h (.mov (.k x48_0)) fun x49_1 h => wS fs out b o10_7h3_2 (upd (upd t 48 x48_0) 49 x49_1) h R) := by kernel_rfl
def o10_7h3g_1 : List (Nat × AOper) := (22, ⟨some 47, .bin .eql (.t 44) (.t 46), none⟩) ::
   []
theorem h10_7h3g_1 : wS fs out b o10_7h3g_1 t h R = (wV fs out (b + 22) noT h (.bin .eql (.k (t 44)) (.k (t 46))) fun x47_0 h => R ⟨(upd t 47 x47_0), h⟩) := by kernel_rfl
def o10_7h3g : List (Nat × AOper) := (21, ⟨some 46, .call 20 [(.t 45)], none⟩) ::
   o10_7h3g_1
theorem h10_7h3g : wS fs out b o10_7h3g t h R = (wV fs out (b + 21) noT h (.call 20 [(.k (t 45))]) fun x46_0 h => wS fs out b o10_7h3g_1 (upd t 46 x46_0) h R) := by kernel_rfl
def o10_7h3 : List (Nat × AOper) := grp 42 true o10_7h3g o10_7h3_1
theorem w10_7h3 : wS fs out b o10_7h3 t h R = onG (t 42) true (wS fs out b o10_7h3g (upd t 42 (.v (.one (.bool true)))) h fun s => wS fs out b o10_7h3_1 s.t s.h R) (wS fs out b o10_7h3_1 (upd (upd (upd t 42 (.v (.one (.bool false)))) 46 (.tup [])) 47 (.tup [])) h R) (wS fs out b o10_7h3_1 (upd (upd t 46 (.tup [])) 47 (.tup [])) h R) := wS_grpE rfl
theorem s10_7 (h : wS fs out s.h.nx o10_7 s.t ⟨s.h.o, s.h.nx + 35⟩ fun s1 => (holdOk s1 ⟨some 30, .load (some 3) (.t 4), some (26, true)⟩ = true ∧ holdOk s1 ⟨some 31, .load (some 4) (.t 5), some (26, true)⟩ = true) ∧ wS fs out s.h.nx o10_7h1 s1.t s1.h fun s2 => (holdOk s2 ⟨some 38, .load (some 3) (.t 4), some (35, true)⟩ = true) ∧ wS fs out s.h.nx o10_7h2 s2.t s2.h fun s3 => (holdOk s3 ⟨some 45, .load (some 3) (.t 4), some (42, true)⟩ = true) ∧ wS fs out s.h.nx o10_7h3 s3.t s3.h (Q .normal)) : wC fs out c10_7 s Q := wC_regionP (wP_seg (run := [0, 1, 2, 3, 5, 6]) (i0 := 4) (rest := [7, 8, 9, 10, 11, 13, 12, 14, 15, 16, 17, 18, 20, 19, 21, 22, 23, 24, 25, 26, 27, 28, 29, 30, 31, 32, 33, 34]) rfl rfl rfl (wS_mono _ h fun s1 hh1 => ⟨by simpa [and_assoc, holdsB, holdsOf] using hh1.1, (wP_seg (run := [7, 8, 9, 10, 11, 13]) (i0 := 12) (rest := [14, 15, 16, 17, 18, 20, 19, 21, 22, 23, 24, 25, 26, 27, 28, 29, 30, 31, 32, 33, 34]) rfl rfl rfl (wS_mono _ hh1.2 fun s2 hh2 => ⟨by simpa [and_assoc, holdsB, holdsOf] using hh2.1, (wP_seg (run := [14, 15, 16, 17, 18, 20]) (i0 := 19) (rest := [21, 22, 23, 24, 25, 26, 27, 28, 29, 30, 31, 32, 33, 34]) rfl rfl rfl (wS_mono _ hh2.2 fun s3 hh3 => ⟨by simpa [and_assoc, holdsB, holdsOf] using hh3.1, (wP_end (run := [21, 22, 23, 24, 25, 26, 27, 28, 29, 30, 31, 32, 33, 34]) rfl rfl rfl hh3.2)⟩))⟩))⟩))
def c10_6 : ACode := .seq c10_7 .ret
theorem s10_6 (h : wC fs out c10_7 s fun e s1 => match e with | .normal => wC fs out .ret s1 Q | e => Q e s1) : wC fs out c10_6 s Q := wC_seq h
def c10_4 : ACode := .seq c10_5 c10_6
theorem s10_4 (h : wS fs out s.h.nx o10_5 s.t ⟨s.h.o, s.h.nx + 8⟩ fun s1 => wC fs out c10_6 s1 Q) : wC fs out c10_4 s Q := wC_seq (s10_5 h)
def c10_2 : ACode := .seq c10_3 c10_4
theorem s10_2 (h : wS fs out s.h.nx o10_3 s.t ⟨s.h.o, s.h.nx + 8⟩ fun s1 => wC fs out c10_4 s1 Q) : wC fs out c10_2 s Q := wC_seq (s10_3 h)
def c10_0 : ACode := .seq c10_1 c10_2
theorem s10_0 (h : wS fs out s.h.nx o10_1 s.t ⟨s.h.o, s.h.nx + 3⟩ fun s1 => wC fs out c10_2 s1 Q) : wC fs out c10_0 s Q := wC_seq (s10_1 h)
def a10 : AFunc := ⟨4, [8], none, c10_0⟩
theorem t10 : tell Try.prog Try.f10 [([0, 1, 2, 3, 5, 6, 4, 7, 8, 9, 10, 11, 13, 12, 14, 15, 16, 17, 18, 20, 19, 21, 22, 23, 24, 25, 26, 27, 28, 29, 30, 31, 32, 33, 34], [(4, [5, 6]), (12, [13]), (19, [20])], [0, 1, 3, 3, 15, 3, 3, 127, 255, 511, 1023, 2047, 4095, 2047, 16383, 32767, 65535, 131071, 262143, 524287, 262143, 2097151, 4194303, 8388607, 16777215, 33554431, 33554431, 134217727, 268435455, 536870911, 1073741823, 1073741823, 4294967295, 8589934591, 17179869183])] = some a10 := by kernel_rfl
theorem ok10 : FuncOk Try.prog 10 a10 := tell_ok Try.func10 t10

/-- railplan/railplankeep.From -/
def o11_1 : List (Nat × AOper) := (0, ⟨some 2, .mov (.k (.v (.one .nilp))), none⟩) ::
   []
theorem h11_1 : wS fs out b o11_1 t h R = (wV fs out (b + 0) noT h (.mov (.k (.v (.one .nilp)))) fun x2_0 h => R ⟨(upd t 2 x2_0), h⟩) := by kernel_rfl
def c11_1 : ACode := .region (o11_1.map (·.2)) [0] []
theorem s11_1 (h : wS fs out s.h.nx o11_1 s.t ⟨s.h.o, s.h.nx + 1⟩ (Q .normal)) : wC fs out c11_1 s Q := wC_region rfl rfl h
def o11_3 : List (Nat × AOper) := (0, ⟨some 3, .mov (.t 0), none⟩) ::
   (1, ⟨some 4, .build [.nils, (.int .i64 0)] [(0, 1, (.t 3))], none⟩) ::
   (2, ⟨some 5, .box 48 2 (.t 4), none⟩) ::
   (3, ⟨some 2, .mov (.t 5), none⟩) ::
   []
theorem h11_3 : wS fs out b o11_3 t h R = (wV fs out (b + 0) noT h (.mov (.k (t 0))) fun x3_0 h => wV fs out (b + 1) noT h (.build [.nils, (.int .i64 0)] [(0, 1, (.k x3_0))]) fun x4_1 h => wV fs out (b + 2) noT h (.box 48 2 (.k x4_1)) fun x5_2 h => wV fs out (b + 3) noT h (.mov (.k x5_2)) fun x2_3 h => R ⟨(upd (upd (upd (upd t 3 x3_0) 4 x4_1) 5 x5_2) 2 x2_3), h⟩) := by kernel_rfl
def c11_3 : ACode := .region (o11_3.map (·.2)) [0, 1, 2, 3] []
theorem s11_3 (h : wS fs out s.h.nx o11_3 s.t ⟨s.h.o, s.h.nx + 4⟩ (Q .normal)) : wC fs out c11_3 s Q := wC_region rfl rfl h
def c11_2 : ACode := .seq c11_3 .ret
theorem s11_2 (h : wS fs out s.h.nx o11_3 s.t ⟨s.h.o, s.h.nx + 4⟩ fun s1 => wC fs out .ret s1 Q) : wC fs out c11_2 s Q := wC_seq (s11_3 h)
def c11_0 : ACode := .seq c11_1 c11_2
theorem s11_0 (h : wS fs out s.h.nx o11_1 s.t ⟨s.h.o, s.h.nx + 1⟩ fun s1 => wC fs out c11_2 s1 Q) : wC fs out c11_0 s Q := wC_seq (s11_1 h)
def a11 : AFunc := ⟨1, [2], none, c11_0⟩
theorem t11 : tell Try.prog Try.f11 [] = some a11 := by kernel_rfl
theorem ok11 : FuncOk Try.prog 11 a11 := tell_ok Try.func11 t11

end Go.Proofs.Ytellgcahkpaldaa.Fn
