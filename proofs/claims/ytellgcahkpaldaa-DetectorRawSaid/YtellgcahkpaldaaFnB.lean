/- Functions of the program, as the abstract machine's, and that they are. Conditions: none. -/
import Derived.Test.YtellgcahkpaldaaAmCo
import Derived.Test.YtellgcahkpaldaaAmEv
import Derived.Test.YtellgcahkpaldaaProg
set_option linter.unusedVariables false
set_option linter.unusedSimpArgs false
namespace Go.Proofs.Ytellgcahkpaldaa.Fn
open Go Go.Am
set_option maxRecDepth 100000
variable {fs : Nat → Option AFunc} {out : Rec} {s : St} {Q : AExit → St → Prop} {b : Nat} {t : Nat → T} {h : AH} {R : St → Prop}
/-- (*railplan/railplankeep.Source).Next -/
def o13_1 : List (Nat × AOper) := (0, ⟨some 4, .mov (.k (.v (.one (.int .i64 0)))), none⟩) ::
   []
theorem h13_1 : wS fs out b o13_1 t h R = (wV fs out (b + 0) noT h (.mov (.k (.v (.one (.int .i64 0))))) fun x4_0 h => R ⟨(upd t 4 x4_0), h⟩) := by kernel_rfl
def c13_1 : ACode := .region (o13_1.map (·.2)) [0] []
theorem s13_1 (h : wS fs out s.h.nx o13_1 s.t ⟨s.h.o, s.h.nx + 1⟩ (Q .normal)) : wC fs out c13_1 s Q := wC_region rfl rfl h
def o13_4 : List (Nat × AOper) := (0, ⟨some 5, .mov (.t 0), none⟩) ::
   (1, ⟨some 6, .nilchk (.t 5), none⟩) ::
   (2, ⟨some 7, .fadr 1 (.t 6), none⟩) ::
   (3, ⟨some 8, .load none (.t 7), none⟩) ::
   (4, ⟨some 9, .mov (.t 0), none⟩) ::
   (5, ⟨some 10, .nilchk (.t 9), none⟩) ::
   (6, ⟨some 11, .fadr 0 (.t 10), none⟩) ::
   (7, ⟨some 12, .load none (.t 11), none⟩) ::
   (8, ⟨some 13, .len (.t 12), none⟩) ::
   (9, ⟨some 14, .bin .geq (.t 8) (.t 13), none⟩) ::
   []
theorem h13_4 : wS fs out b o13_4 t h R = (wV fs out (b + 0) noT h (.mov (.k (t 0))) fun x5_0 h => wV fs out (b + 1) noT h (.nilchk (.k x5_0)) fun x6_1 h => wV fs out (b + 2) noT h (.fadr 1 (.k x6_1)) fun x7_2 h => wV fs out (b + 3) noT h (.load none (.k x7_2)) fun x8_3 h => wV fs out (b + 4) noT h (.mov (.k (t 0))) fun x9_4 h => wV fs out (b + 5) noT h (.nilchk (.k x9_4)) fun x10_5 h => wV fs out (b + 6) noT h (.fadr 0 (.k x10_5)) fun x11_6 h => wV fs out (b + 7) noT h (.load none (.k x11_6)) fun x12_7 h => wV fs out (b + 8) noT h (.len (.k x12_7)) fun x13_8 h => wV fs out (b + 9) noT h (.bin .geq (.k x8_3) (.k x13_8)) fun x14_9 h => R ⟨(upd (upd (upd (upd (upd (upd (upd (upd (upd (upd t 5 x5_0) 6 x6_1) 7 x7_2) 8 x8_3) 9 x9_4) 10 x10_5) 11 x11_6) 12 x12_7) 13 x13_8) 14 x14_9), h⟩) := by kernel_rfl
def c13_4 : ACode := .region (o13_4.map (·.2)) [0, 1, 2, 3, 4, 5, 6, 7, 8, 9] []
theorem s13_4 (h : wS fs out s.h.nx o13_4 s.t ⟨s.h.o, s.h.nx + 10⟩ (Q .normal)) : wC fs out c13_4 s Q := wC_region rfl rfl h
def o13_7 : List (Nat × AOper) := (0, ⟨some 4, .mov (.k (.v (.one (.int .i64 0)))), none⟩) ::
   []
theorem h13_7 : wS fs out b o13_7 t h R = (wV fs out (b + 0) noT h (.mov (.k (.v (.one (.int .i64 0))))) fun x4_0 h => R ⟨(upd t 4 x4_0), h⟩) := by kernel_rfl
def c13_7 : ACode := .region (o13_7.map (·.2)) [0] []
theorem s13_7 (h : wS fs out s.h.nx o13_7 s.t ⟨s.h.o, s.h.nx + 1⟩ (Q .normal)) : wC fs out c13_7 s Q := wC_region rfl rfl h
def c13_6 : ACode := .seq c13_7 .ret
theorem s13_6 (h : wS fs out s.h.nx o13_7 s.t ⟨s.h.o, s.h.nx + 1⟩ fun s1 => wC fs out .ret s1 Q) : wC fs out c13_6 s Q := wC_seq (s13_7 h)
def c13_5 : ACode := .cond (.t 14) c13_6 .skip [0, 1, 4]
theorem s13_5 (h : onC (s.t 14) (wC fs out c13_6 s fun e s1 => Q e (keepOnly [0, 1, 4] s1)) (Q .normal (keepOnly [0, 1, 4] s))) : wC fs out c13_5 s Q := wC_condC (by first | exact h | (simp only [wC_skip, wC_exit, wC_ret]; exact h))
def c13_3 : ACode := .seq c13_4 c13_5
theorem s13_3 (h : wS fs out s.h.nx o13_4 s.t ⟨s.h.o, s.h.nx + 10⟩ fun s1 => wC fs out c13_5 s1 Q) : wC fs out c13_3 s Q := wC_seq (s13_4 h)
def o13_9 : List (Nat × AOper) := (0, ⟨some 15, .mov (.t 0), none⟩) ::
   (1, ⟨some 16, .nilchk (.t 15), none⟩) ::
   (2, ⟨some 17, .fadr 1 (.t 16), none⟩) ::
   (3, ⟨some 18, .load none (.t 17), none⟩) ::
   (4, ⟨some 19, .bin .add (.t 18) (.k (.v (.one (.int .i64 1)))), none⟩) ::
   (5, ⟨some 20, .nilchk (.t 15), none⟩) ::
   (6, ⟨some 21, .fadr 1 (.t 20), none⟩) ::
   (7, ⟨none, .store 1 (.t 21) (.t 19), none⟩) ::
   []
theorem h13_9 : wS fs out b o13_9 t h R = (wV fs out (b + 0) noT h (.mov (.k (t 0))) fun x15_0 h => wV fs out (b + 1) noT h (.nilchk (.k x15_0)) fun x16_1 h => wV fs out (b + 2) noT h (.fadr 1 (.k x16_1)) fun x17_2 h => wV fs out (b + 3) noT h (.load none (.k x17_2)) fun x18_3 h => wV fs out (b + 4) noT h (.bin .add (.k x18_3) (.k (.v (.one (.int .i64 1))))) fun x19_4 h => wV fs out (b + 5) noT h (.nilchk (.k x15_0)) fun x20_5 h => wV fs out (b + 6) noT h (.fadr 1 (.k x20_5)) fun x21_6 h => wV fs out (b + 7) noT h (.store 1 (.k x21_6) (.k x19_4)) fun _ h => R ⟨(upd (upd (upd (upd (upd (upd (upd t 15 x15_0) 16 x16_1) 17 x17_2) 18 x18_3) 19 x19_4) 20 x20_5) 21 x21_6), h⟩) := by kernel_rfl
def c13_9 : ACode := .region (o13_9.map (·.2)) [0, 1, 2, 3, 4, 5, 6, 7] []
theorem s13_9 (h : wS fs out s.h.nx o13_9 s.t ⟨s.h.o, s.h.nx + 8⟩ (Q .normal)) : wC fs out c13_9 s Q := wC_region rfl rfl h
def o13_11_1 : List (Nat × AOper) := (13, ⟨some 4, .mov (.t 34), none⟩) ::
   []
theorem h13_11_1 : wS fs out b o13_11_1 t h R = (wV fs out (b + 13) noT h (.mov (.k (t 34))) fun x4_0 h => R ⟨(upd t 4 x4_0), h⟩) := by kernel_rfl
def o13_11 : List (Nat × AOper) := (0, ⟨some 22, .mov (.t 0), none⟩) ::
   (1, ⟨some 23, .nilchk (.t 22), none⟩) ::
   (2, ⟨some 24, .fadr 0 (.t 23), none⟩) ::
   (3, ⟨some 25, .load none (.t 24), none⟩) ::
   (4, ⟨some 26, .mov (.t 0), none⟩) ::
   (5, ⟨some 27, .nilchk (.t 26), none⟩) ::
   (6, ⟨some 28, .fadr 1 (.t 27), none⟩) ::
   (7, ⟨some 29, .load none (.t 28), none⟩) ::
   (8, ⟨some 30, .bin .sub (.t 29) (.k (.v (.one (.int .i64 1)))), none⟩) ::
   (9, ⟨some 31, .iadr 1 (.t 25) (.t 30), none⟩) ::
   (10, ⟨some 32, .load none (.t 31), none⟩) ::
   (11, ⟨some 33, .mov (.t 1), none⟩) ::
   (12, ⟨some 34, .call 17 [(.t 32), (.t 33)], none⟩) ::
   o13_11_1
theorem h13_11 : wS fs out b o13_11 t h R = (wV fs out (b + 0) noT h (.mov (.k (t 0))) fun x22_0 h => wV fs out (b + 1) noT h (.nilchk (.k x22_0)) fun x23_1 h => wV fs out (b + 2) noT h (.fadr 0 (.k x23_1)) fun x24_2 h => wV fs out (b + 3) noT h (.load none (.k x24_2)) fun x25_3 h => wV fs out (b + 4) noT h (.mov (.k (t 0))) fun x26_4 h => wV fs out (b + 5) noT h (.nilchk (.k x26_4)) fun x27_5 h => wV fs out (b + 6) noT h (.fadr 1 (.k x27_5)) fun x28_6 h => wV fs out (b + 7) noT h (.load none (.k x28_6)) fun x29_7 h => wV fs out (b + 8) noT h (.bin .sub (.k x29_7) (.k (.v (.one (.int .i64 1))))) fun x30_8 h => wV fs out (b + 9) noT h (.iadr 1 (.k x25_3) (.k x30_8)) fun x31_9 h => wV fs out (b + 10) noT h (.load none (.k x31_9)) fun x32_10 h => wV fs out (b + 11) noT h (.mov (.k (t 1))) fun x33_11 h => wV fs out (b + 12) noT h (.call 17 [(.k x32_10), (.k x33_11)]) fun x34_12 h => wS fs out b o13_11_1 (upd (upd (upd (upd (upd (upd (upd (upd (upd (upd (upd (upd (upd t 22 x22_0) 23 x23_1) 24 x24_2) 25 x25_3) 26 x26_4) 27 x27_5) 28 x28_6) 29 x29_7) 30 x30_8) 31 x31_9) 32 x32_10) 33 x33_11) 34 x34_12) h R) := by kernel_rfl
def c13_11 : ACode := .region (o13_11.map (·.2)) [0, 1, 2, 3, 4, 5, 6, 7, 8, 9, 10, 11, 12, 13] []
theorem s13_11 (h : wS fs out s.h.nx o13_11 s.t ⟨s.h.o, s.h.nx + 14⟩ (Q .normal)) : wC fs out c13_11 s Q := wC_region rfl rfl h
def c13_10 : ACode := .seq c13_11 .ret
theorem s13_10 (h : wS fs out s.h.nx o13_11 s.t ⟨s.h.o, s.h.nx + 14⟩ fun s1 => wC fs out .ret s1 Q) : wC fs out c13_10 s Q := wC_seq (s13_11 h)
def c13_8 : ACode := .seq c13_9 c13_10
theorem s13_8 (h : wS fs out s.h.nx o13_9 s.t ⟨s.h.o, s.h.nx + 8⟩ fun s1 => wC fs out c13_10 s1 Q) : wC fs out c13_8 s Q := wC_seq (s13_9 h)
def c13_2 : ACode := .seq c13_3 c13_8
theorem s13_2 (h : wC fs out c13_3 s fun e s1 => match e with | .normal => wC fs out c13_8 s1 Q | e => Q e s1) : wC fs out c13_2 s Q := wC_seq h
def c13_0 : ACode := .seq c13_1 c13_2
theorem s13_0 (h : wS fs out s.h.nx o13_1 s.t ⟨s.h.o, s.h.nx + 1⟩ fun s1 => wC fs out c13_2 s1 Q) : wC fs out c13_0 s Q := wC_seq (s13_1 h)
def a13 : AFunc := ⟨2, [4], none, c13_0⟩
theorem t13 : tell Try.prog Try.f13 [([0, 1, 2, 3, 4, 5, 6, 7, 8, 9], [], [0, 1, 3, 7, 0, 16, 48, 112, 240, 511]), ([0, 1, 4], [], []), ([0, 1, 2, 3, 4, 5, 6, 7, 8, 9, 10, 11, 12, 13], [], [0, 1, 3, 7, 0, 16, 48, 112, 240, 511, 1023, 0, 4095, 8191])] = some a13 := by kernel_rfl
theorem ok13 : FuncOk Try.prog 13 a13 := tell_ok Try.func13 t13

/-- railplan/detector.Feed -/
def o14_1 : List (Nat × AOper) := (0, ⟨some 2, .box 26 3 (.t 0), none⟩) ::
   (1, ⟨some 3, .box 31 4 (.t 1), none⟩) ::
   (2, ⟨some 4, .new 26 [(.int .i64 0), (.int .i64 0), (.int .i64 0)], none⟩) ::
   []
theorem h14_1 : wS fs out b o14_1 t h R = (wV fs out (b + 0) noT h (.box 26 3 (.k (t 0))) fun x2_0 h => wV fs out (b + 1) noT h (.box 31 4 (.k (t 1))) fun x3_1 h => wV fs out (b + 2) noT h (.new 26 [(.int .i64 0), (.int .i64 0), (.int .i64 0)]) fun x4_2 h => R ⟨(upd (upd (upd t 2 x2_0) 3 x3_1) 4 x4_2), h⟩) := by kernel_rfl
def c14_1 : ACode := .region (o14_1.map (·.2)) [0, 1, 2] []
theorem s14_1 (h : wS fs out s.h.nx o14_1 s.t ⟨s.h.o, s.h.nx + 3⟩ (Q .normal)) : wC fs out c14_1 s Q := wC_region rfl rfl h
def o14_4_3 : List (Nat × AOper) := (7, ⟨some 13, .pick (.t 9) (.k (.v (.one (.bool true)))) (.t 12), none⟩) ::
   []
theorem h14_4_3 : wS fs out b o14_4_3 t h R = (wV fs out (b + 7) noT h (.pick (.k (t 9)) (.k (.v (.one (.bool true)))) (.k (t 12))) fun x13_0 h => R ⟨(upd t 13 x13_0), h⟩) := by kernel_rfl
def o14_4_2g_1 : List (Nat × AOper) := (6, ⟨some 12, .not (.t 11), none⟩) ::
   []
theorem h14_4_2g_1 : wS fs out b o14_4_2g_1 t h R = (wV fs out (b + 6) noT h (.not (.k (t 11))) fun x12_0 h => R ⟨(upd t 12 x12_0), h⟩) := by kernel_rfl
def o14_4_2g : List (Nat × AOper) := (4, ⟨some 10, .load (some 4) (.t 3), none⟩) ::
   (5, ⟨some 11, .call 27 [(.t 10)], none⟩) ::
   o14_4_2g_1
theorem h14_4_2g : wS fs out b o14_4_2g t h R = (wV fs out (b + 4) noT h (.load (some 4) (.k (t 3))) fun x10_0 h => wV fs out (b + 5) noT h (.call 27 [(.k x10_0)]) fun x11_1 h => wS fs out b o14_4_2g_1 (upd (upd t 10 x10_0) 11 x11_1) h R) := by kernel_rfl
def o14_4_2 : List (Nat × AOper) := grp 9 false o14_4_2g o14_4_3
theorem w14_4_2 : wS fs out b o14_4_2 t h R = onG (t 9) false (wS fs out b o14_4_2g (upd t 9 (.v (.one (.bool false)))) h fun s => wS fs out b o14_4_3 s.t s.h R) (wS fs out b o14_4_3 (upd (upd (upd (upd t 9 (.v (.one (.bool true)))) 10 (.tup [])) 11 (.tup [])) 12 (.tup [])) h R) (wS fs out b o14_4_3 (upd (upd (upd t 10 (.tup [])) 11 (.tup [])) 12 (.tup [])) h R) := wS_grpE rfl
def o14_4_1 : List (Nat × AOper) := (2, ⟨some 8, .not (.t 7), none⟩) ::
   (3, ⟨some 9, .mov (.t 8), none⟩) ::
   o14_4_2
theorem h14_4_1 : wS fs out b o14_4_1 t h R = (wV fs out (b + 2) noT h (.not (.k (t 7))) fun x8_0 h => wV fs out (b + 3) noT h (.mov (.k x8_0)) fun x9_1 h => wS fs out b o14_4_2 (upd (upd t 8 x8_0) 9 x9_1) h R) := by kernel_rfl
def o14_4 : List (Nat × AOper) := (0, ⟨some 6, .load (some 3) (.t 2), none⟩) ::
   (1, ⟨some 7, .call 26 [(.t 6)], none⟩) ::
   o14_4_1
theorem h14_4 : wS fs out b o14_4 t h R = (wV fs out (b + 0) noT h (.load (some 3) (.k (t 2))) fun x6_0 h => wV fs out (b + 1) noT h (.call 26 [(.k x6_0)]) fun x7_1 h => wS fs out b o14_4_1 (upd (upd t 6 x6_0) 7 x7_1) h R) := by kernel_rfl
def c14_4 : ACode := .region (o14_4.map (·.2)) [0, 1, 2, 3, 4, 5, 6, 7] []
theorem s14_4 (h : wS fs out s.h.nx o14_4 s.t ⟨s.h.o, s.h.nx + 8⟩ (Q .normal)) : wC fs out c14_4 s Q := wC_region rfl rfl h
def o14_7 : List (Nat × AOper) := (0, ⟨some 14, .build [(.int .i64 0), (.int .i64 0), (.int .i64 0)] [(0, 1, (.k (.v (.one (.int .i64 1)))))], none⟩) ::
   (1, ⟨none, .store 3 (.t 4) (.t 14), none⟩) ::
   []
theorem h14_7 : wS fs out b o14_7 t h R = (wV fs out (b + 0) noT h (.build [(.int .i64 0), (.int .i64 0), (.int .i64 0)] [(0, 1, (.k (.v (.one (.int .i64 1)))))]) fun x14_0 h => wV fs out (b + 1) noT h (.store 3 (.k (t 4)) (.k x14_0)) fun _ h => R ⟨(upd t 14 x14_0), h⟩) := by kernel_rfl
def c14_7 : ACode := .region (o14_7.map (·.2)) [0, 1] []
theorem s14_7 (h : wS fs out s.h.nx o14_7 s.t ⟨s.h.o, s.h.nx + 2⟩ (Q .normal)) : wC fs out c14_7 s Q := wC_region rfl rfl h
def c14_6 : ACode := .seq c14_7 .ret
theorem s14_6 (h : wS fs out s.h.nx o14_7 s.t ⟨s.h.o, s.h.nx + 2⟩ fun s1 => wC fs out .ret s1 Q) : wC fs out c14_6 s Q := wC_seq (s14_7 h)
def c14_5 : ACode := .cond (.t 13) c14_6 .skip [2, 3, 4]
theorem s14_5 (h : onC (s.t 13) (wC fs out c14_6 s fun e s1 => Q e (keepOnly [2, 3, 4] s1)) (Q .normal (keepOnly [2, 3, 4] s))) : wC fs out c14_5 s Q := wC_condC (by first | exact h | (simp only [wC_skip, wC_exit, wC_ret]; exact h))
def c14_3 : ACode := .seq c14_4 c14_5
theorem s14_3 (h : wS fs out s.h.nx o14_4 s.t ⟨s.h.o, s.h.nx + 8⟩ fun s1 => wC fs out c14_5 s1 Q) : wC fs out c14_3 s Q := wC_seq (s14_4 h)
def o14_9 : List (Nat × AOper) := (0, ⟨some 15, .fadr 1 (.t 2), none⟩) ::
   (1, ⟨some 16, .load none (.t 15), none⟩) ::
   (2, ⟨some 17, .fadr 2 (.t 3), none⟩) ::
   (3, ⟨some 18, .load none (.t 17), none⟩) ::
   (4, ⟨some 19, .bin .add (.t 16) (.t 18), none⟩) ::
   (5, ⟨some 5, .mov (.t 19), none⟩) ::
   []
theorem h14_9 : wS fs out b o14_9 t h R = (wV fs out (b + 0) noT h (.fadr 1 (.k (t 2))) fun x15_0 h => wV fs out (b + 1) noT h (.load none (.k x15_0)) fun x16_1 h => wV fs out (b + 2) noT h (.fadr 2 (.k (t 3))) fun x17_2 h => wV fs out (b + 3) noT h (.load none (.k x17_2)) fun x18_3 h => wV fs out (b + 4) noT h (.bin .add (.k x16_1) (.k x18_3)) fun x19_4 h => wV fs out (b + 5) noT h (.mov (.k x19_4)) fun x5_5 h => R ⟨(upd (upd (upd (upd (upd (upd t 15 x15_0) 16 x16_1) 17 x17_2) 18 x18_3) 19 x19_4) 5 x5_5), h⟩) := by kernel_rfl
def c14_9 : ACode := .region (o14_9.map (·.2)) [0, 1, 2, 3, 4, 5] []
theorem s14_9 (h : wS fs out s.h.nx o14_9 s.t ⟨s.h.o, s.h.nx + 6⟩ (Q .normal)) : wC fs out c14_9 s Q := wC_region rfl rfl h
def o14_12 : List (Nat × AOper) := (0, ⟨some 20, .fadr 1 (.t 3), none⟩) ::
   (1, ⟨some 21, .load none (.t 20), none⟩) ::
   (2, ⟨some 22, .not (.t 21), none⟩) ::
   []
theorem h14_12 : wS fs out b o14_12 t h R = (wV fs out (b + 0) noT h (.fadr 1 (.k (t 3))) fun x20_0 h => wV fs out (b + 1) noT h (.load none (.k x20_0)) fun x21_1 h => wV fs out (b + 2) noT h (.not (.k x21_1)) fun x22_2 h => R ⟨(upd (upd (upd t 20 x20_0) 21 x21_1) 22 x22_2), h⟩) := by kernel_rfl
def c14_12 : ACode := .region (o14_12.map (·.2)) [0, 1, 2] []
theorem s14_12 (h : wS fs out s.h.nx o14_12 s.t ⟨s.h.o, s.h.nx + 3⟩ (Q .normal)) : wC fs out c14_12 s Q := wC_region rfl rfl h
def o14_14 : List (Nat × AOper) := (0, ⟨some 23, .fadr 1 (.t 2), none⟩) ::
   (1, ⟨some 24, .load none (.t 23), none⟩) ::
   (2, ⟨some 25, .fadr 2 (.t 3), none⟩) ::
   (3, ⟨some 26, .load none (.t 25), none⟩) ::
   (4, ⟨some 27, .bin .sub (.t 24) (.t 26), none⟩) ::
   (5, ⟨some 5, .mov (.t 27), none⟩) ::
   []
theorem h14_14 : wS fs out b o14_14 t h R = (wV fs out (b + 0) noT h (.fadr 1 (.k (t 2))) fun x23_0 h => wV fs out (b + 1) noT h (.load none (.k x23_0)) fun x24_1 h => wV fs out (b + 2) noT h (.fadr 2 (.k (t 3))) fun x25_2 h => wV fs out (b + 3) noT h (.load none (.k x25_2)) fun x26_3 h => wV fs out (b + 4) noT h (.bin .sub (.k x24_1) (.k x26_3)) fun x27_4 h => wV fs out (b + 5) noT h (.mov (.k x27_4)) fun x5_5 h => R ⟨(upd (upd (upd (upd (upd (upd t 23 x23_0) 24 x24_1) 25 x25_2) 26 x26_3) 27 x27_4) 5 x5_5), h⟩) := by kernel_rfl
def c14_14 : ACode := .region (o14_14.map (·.2)) [0, 1, 2, 3, 4, 5] []
theorem s14_14 (h : wS fs out s.h.nx o14_14 s.t ⟨s.h.o, s.h.nx + 6⟩ (Q .normal)) : wC fs out c14_14 s Q := wC_region rfl rfl h
def c14_13 : ACode := .cond (.t 22) c14_14 .skip [2, 3, 4, 5]
theorem s14_13 (h : onC (s.t 22) (wC fs out c14_14 s fun e s1 => Q e (keepOnly [2, 3, 4, 5] s1)) (Q .normal (keepOnly [2, 3, 4, 5] s))) : wC fs out c14_13 s Q := wC_condC (by first | exact h | (simp only [wC_skip, wC_exit, wC_ret]; exact h))
def c14_11 : ACode := .seq c14_12 c14_13
theorem s14_11 (h : wS fs out s.h.nx o14_12 s.t ⟨s.h.o, s.h.nx + 3⟩ fun s1 => wC fs out c14_13 s1 Q) : wC fs out c14_11 s Q := wC_seq (s14_12 h)
def o14_18_2 : List (Nat × AOper) := (5, ⟨some 34, .pick (.t 31) (.k (.v (.one (.bool true)))) (.t 33), none⟩) ::
   (6, ⟨some 28, .mov (.t 34), none⟩) ::
   []
theorem h14_18_2 : wS fs out b o14_18_2 t h R = (wV fs out (b + 5) noT h (.pick (.k (t 31)) (.k (.v (.one (.bool true)))) (.k (t 33))) fun x34_0 h => wV fs out (b + 6) noT h (.mov (.k x34_0)) fun x28_1 h => R ⟨(upd (upd t 34 x34_0) 28 x28_1), h⟩) := by kernel_rfl
def o14_18_1g : List (Nat × AOper) := (3, ⟨some 32, .mov (.t 5), none⟩) ::
   (4, ⟨some 33, .bin .gtr (.t 32) (.k (.v (.one (.int .i64 1600)))), none⟩) ::
   []
theorem h14_18_1g : wS fs out b o14_18_1g t h R = (wV fs out (b + 3) noT h (.mov (.k (t 5))) fun x32_0 h => wV fs out (b + 4) noT h (.bin .gtr (.k x32_0) (.k (.v (.one (.int .i64 1600))))) fun x33_1 h => R ⟨(upd (upd t 32 x32_0) 33 x33_1), h⟩) := by kernel_rfl
def o14_18_1 : List (Nat × AOper) := grp 31 false o14_18_1g o14_18_2
theorem w14_18_1 : wS fs out b o14_18_1 t h R = onG (t 31) false (wS fs out b o14_18_1g (upd t 31 (.v (.one (.bool false)))) h fun s => wS fs out b o14_18_2 s.t s.h R) (wS fs out b o14_18_2 (upd (upd (upd t 31 (.v (.one (.bool true)))) 32 (.tup [])) 33 (.tup [])) h R) (wS fs out b o14_18_2 (upd (upd t 32 (.tup [])) 33 (.tup [])) h R) := wS_grpE rfl
def o14_18 : List (Nat × AOper) := (0, ⟨some 29, .mov (.t 5), none⟩) ::
   (1, ⟨some 30, .bin .lss (.t 29) (.k (.v (.one (.int .i64 0)))), none⟩) ::
   (2, ⟨some 31, .mov (.t 30), none⟩) ::
   o14_18_1
theorem h14_18 : wS fs out b o14_18 t h R = (wV fs out (b + 0) noT h (.mov (.k (t 5))) fun x29_0 h => wV fs out (b + 1) noT h (.bin .lss (.k x29_0) (.k (.v (.one (.int .i64 0))))) fun x30_1 h => wV fs out (b + 2) noT h (.mov (.k x30_1)) fun x31_2 h => wS fs out b o14_18_1 (upd (upd (upd t 29 x29_0) 30 x30_1) 31 x31_2) h R) := by kernel_rfl
def c14_18 : ACode := .region (o14_18.map (·.2)) [0, 1, 2, 3, 4, 5, 6] []
theorem s14_18 (h : wS fs out s.h.nx o14_18 s.t ⟨s.h.o, s.h.nx + 7⟩ (Q .normal)) : wC fs out c14_18 s Q := wC_region rfl rfl h
def o14_21 : List (Nat × AOper) := (0, ⟨some 35, .build [(.int .i64 0), (.int .i64 0), (.int .i64 0)] [(0, 1, (.k (.v (.one (.int .i64 1)))))], none⟩) ::
   (1, ⟨none, .store 3 (.t 4) (.t 35), none⟩) ::
   []
theorem h14_21 : wS fs out b o14_21 t h R = (wV fs out (b + 0) noT h (.build [(.int .i64 0), (.int .i64 0), (.int .i64 0)] [(0, 1, (.k (.v (.one (.int .i64 1)))))]) fun x35_0 h => wV fs out (b + 1) noT h (.store 3 (.k (t 4)) (.k x35_0)) fun _ h => R ⟨(upd t 35 x35_0), h⟩) := by kernel_rfl
def c14_21 : ACode := .region (o14_21.map (·.2)) [0, 1] []
theorem s14_21 (h : wS fs out s.h.nx o14_21 s.t ⟨s.h.o, s.h.nx + 2⟩ (Q .normal)) : wC fs out c14_21 s Q := wC_region rfl rfl h
def c14_20 : ACode := .seq c14_21 .ret
theorem s14_20 (h : wS fs out s.h.nx o14_21 s.t ⟨s.h.o, s.h.nx + 2⟩ fun s1 => wC fs out .ret s1 Q) : wC fs out c14_20 s Q := wC_seq (s14_21 h)
def o14_23_4 : List (Nat × AOper) := (11, ⟨some 48, .pick (.t 45) (.t 47) (.k (.v (.one (.bool false)))), none⟩) ::
   (12, ⟨some 36, .mov (.t 48), none⟩) ::
   []
theorem h14_23_4 : wS fs out b o14_23_4 t h R = (wV fs out (b + 11) noT h (.pick (.k (t 45)) (.k (t 47)) (.k (.v (.one (.bool false))))) fun x48_0 h => wV fs out (b + 12) noT h (.mov (.k x48_0)) fun x36_1 h => R ⟨(upd (upd t 48 x48_0) 36 x36_1), h⟩) := by kernel_rfl
def o14_23_3g : List (Nat × AOper) := (9, ⟨some 46, .mov (.t 5), none⟩) ::
   (10, ⟨some 47, .bin .eql (.t 46) (.k (.v (.one (.int .i64 0)))), none⟩) ::
   []
theorem h14_23_3g : wS fs out b o14_23_3g t h R = (wV fs out (b + 9) noT h (.mov (.k (t 5))) fun x46_0 h => wV fs out (b + 10) noT h (.bin .eql (.k x46_0) (.k (.v (.one (.int .i64 0))))) fun x47_1 h => R ⟨(upd (upd t 46 x46_0) 47 x47_1), h⟩) := by kernel_rfl
def o14_23_3 : List (Nat × AOper) := grp 45 true o14_23_3g o14_23_4
theorem w14_23_3 : wS fs out b o14_23_3 t h R = onG (t 45) true (wS fs out b o14_23_3g (upd t 45 (.v (.one (.bool true)))) h fun s => wS fs out b o14_23_4 s.t s.h R) (wS fs out b o14_23_4 (upd (upd (upd t 45 (.v (.one (.bool false)))) 46 (.tup [])) 47 (.tup [])) h R) (wS fs out b o14_23_4 (upd (upd t 46 (.tup [])) 47 (.tup [])) h R) := wS_grpE rfl
def o14_23_2 : List (Nat × AOper) := (7, ⟨some 44, .pick (.t 40) (.t 43) (.k (.v (.one (.bool false)))), none⟩) ::
   (8, ⟨some 45, .mov (.t 44), none⟩) ::
   o14_23_3
theorem h14_23_2 : wS fs out b o14_23_2 t h R = (wV fs out (b + 7) noT h (.pick (.k (t 40)) (.k (t 43)) (.k (.v (.one (.bool false))))) fun x44_0 h => wV fs out (b + 8) noT h (.mov (.k x44_0)) fun x45_1 h => wS fs out b o14_23_3 (upd (upd t 44 x44_0) 45 x45_1) h R) := by kernel_rfl
def o14_23_1g : List (Nat × AOper) := (4, ⟨some 41, .fadr 1 (.t 3), none⟩) ::
   (5, ⟨some 42, .load none (.t 41), none⟩) ::
   (6, ⟨some 43, .not (.t 42), none⟩) ::
   []
theorem h14_23_1g : wS fs out b o14_23_1g t h R = (wV fs out (b + 4) noT h (.fadr 1 (.k (t 3))) fun x41_0 h => wV fs out (b + 5) noT h (.load none (.k x41_0)) fun x42_1 h => wV fs out (b + 6) noT h (.not (.k x42_1)) fun x43_2 h => R ⟨(upd (upd (upd t 41 x41_0) 42 x42_1) 43 x43_2), h⟩) := by kernel_rfl
def o14_23_1 : List (Nat × AOper) := grp 40 true o14_23_1g o14_23_2
theorem w14_23_1 : wS fs out b o14_23_1 t h R = onG (t 40) true (wS fs out b o14_23_1g (upd t 40 (.v (.one (.bool true)))) h fun s => wS fs out b o14_23_2 s.t s.h R) (wS fs out b o14_23_2 (upd (upd (upd (upd t 40 (.v (.one (.bool false)))) 41 (.tup [])) 42 (.tup [])) 43 (.tup [])) h R) (wS fs out b o14_23_2 (upd (upd (upd t 41 (.tup [])) 42 (.tup [])) 43 (.tup [])) h R) := wS_grpE rfl
def o14_23 : List (Nat × AOper) := (0, ⟨some 37, .fadr 0 (.t 2), none⟩) ::
   (1, ⟨some 38, .load none (.t 37), none⟩) ::
   (2, ⟨some 39, .bin .eql (.t 38) (.k (.v (.one (.int .i64 2)))), none⟩) ::
   (3, ⟨some 40, .mov (.t 39), none⟩) ::
   o14_23_1
theorem h14_23 : wS fs out b o14_23 t h R = (wV fs out (b + 0) noT h (.fadr 0 (.k (t 2))) fun x37_0 h => wV fs out (b + 1) noT h (.load none (.k x37_0)) fun x38_1 h => wV fs out (b + 2) noT h (.bin .eql (.k x38_1) (.k (.v (.one (.int .i64 2))))) fun x39_2 h => wV fs out (b + 3) noT h (.mov (.k x39_2)) fun x40_3 h => wS fs out b o14_23_1 (upd (upd (upd (upd t 37 x37_0) 38 x38_1) 39 x39_2) 40 x40_3) h R) := by kernel_rfl
def c14_23 : ACode := .region (o14_23.map (·.2)) [0, 1, 2, 3, 4, 5, 6, 7, 8, 9, 10, 11, 12] []
theorem s14_23 (h : wS fs out s.h.nx o14_23 s.t ⟨s.h.o, s.h.nx + 13⟩ (Q .normal)) : wC fs out c14_23 s Q := wC_region rfl rfl h
def o14_26 : List (Nat × AOper) := (0, ⟨some 49, .build [(.int .i64 0), (.int .i64 0), (.int .i64 0)] [(0, 1, (.k (.v (.one (.int .i64 0)))))], none⟩) ::
   (1, ⟨none, .store 3 (.t 4) (.t 49), none⟩) ::
   []
theorem h14_26 : wS fs out b o14_26 t h R = (wV fs out (b + 0) noT h (.build [(.int .i64 0), (.int .i64 0), (.int .i64 0)] [(0, 1, (.k (.v (.one (.int .i64 0)))))]) fun x49_0 h => wV fs out (b + 1) noT h (.store 3 (.k (t 4)) (.k x49_0)) fun _ h => R ⟨(upd t 49 x49_0), h⟩) := by kernel_rfl
def c14_26 : ACode := .region (o14_26.map (·.2)) [0, 1] []
theorem s14_26 (h : wS fs out s.h.nx o14_26 s.t ⟨s.h.o, s.h.nx + 2⟩ (Q .normal)) : wC fs out c14_26 s Q := wC_region rfl rfl h
def c14_25 : ACode := .seq c14_26 .ret
theorem s14_25 (h : wS fs out s.h.nx o14_26 s.t ⟨s.h.o, s.h.nx + 2⟩ fun s1 => wC fs out .ret s1 Q) : wC fs out c14_25 s Q := wC_seq (s14_26 h)
def c14_24 : ACode := .cond (.t 36) c14_25 .skip [2, 4, 5]
theorem s14_24 (h : onC (s.t 36) (wC fs out c14_25 s fun e s1 => Q e (keepOnly [2, 4, 5] s1)) (Q .normal (keepOnly [2, 4, 5] s))) : wC fs out c14_24 s Q := wC_condC (by first | exact h | (simp only [wC_skip, wC_exit, wC_ret]; exact h))
def c14_22 : ACode := .seq c14_23 c14_24
theorem s14_22 (h : wS fs out s.h.nx o14_23 s.t ⟨s.h.o, s.h.nx + 13⟩ fun s1 => wC fs out c14_24 s1 Q) : wC fs out c14_22 s Q := wC_seq (s14_23 h)
def c14_19 : ACode := .cond (.t 28) c14_20 c14_22 [2, 4, 5]
theorem s14_19 (h : onC (s.t 28) (wC fs out c14_20 s fun e s1 => Q e (keepOnly [2, 4, 5] s1)) (wC fs out c14_22 s fun e s1 => Q e (keepOnly [2, 4, 5] s1))) : wC fs out c14_19 s Q := wC_condC (by first | exact h | (simp only [wC_skip, wC_exit, wC_ret]; exact h))
def c14_17 : ACode := .seq c14_18 c14_19
theorem s14_17 (h : wS fs out s.h.nx o14_18 s.t ⟨s.h.o, s.h.nx + 7⟩ fun s1 => wC fs out c14_19 s1 Q) : wC fs out c14_17 s Q := wC_seq (s14_18 h)
def c14_16 : ACode := .block 0 c14_17
theorem s14_16 (h : wC fs out c14_17 s fun e s1 => Q (if e = .exit 0 then .normal else e) s1) : wC fs out c14_16 s Q := wC_block h
def o14_28 : List (Nat × AOper) := (0, ⟨some 50, .fadr 0 (.t 2), none⟩) ::
   (1, ⟨some 51, .load none (.t 50), none⟩) ::
   (2, ⟨some 52, .mov (.t 5), none⟩) ::
   (3, ⟨some 53, .mov (.t 5), none⟩) ::
   (4, ⟨some 54, .build [(.int .i64 0), (.int .i64 0), (.int .i64 0)] [(0, 1, (.t 51)), (1, 1, (.t 52)), (2, 1, (.t 53))], none⟩) ::
   (5, ⟨none, .store 3 (.t 4) (.t 54), none⟩) ::
   []
theorem h14_28 : wS fs out b o14_28 t h R = (wV fs out (b + 0) noT h (.fadr 0 (.k (t 2))) fun x50_0 h => wV fs out (b + 1) noT h (.load none (.k x50_0)) fun x51_1 h => wV fs out (b + 2) noT h (.mov (.k (t 5))) fun x52_2 h => wV fs out (b + 3) noT h (.mov (.k (t 5))) fun x53_3 h => wV fs out (b + 4) noT h (.build [(.int .i64 0), (.int .i64 0), (.int .i64 0)] [(0, 1, (.k x51_1)), (1, 1, (.k x52_2)), (2, 1, (.k x53_3))]) fun x54_4 h => wV fs out (b + 5) noT h (.store 3 (.k (t 4)) (.k x54_4)) fun _ h => R ⟨(upd (upd (upd (upd (upd t 50 x50_0) 51 x51_1) 52 x52_2) 53 x53_3) 54 x54_4), h⟩) := by kernel_rfl
def c14_28 : ACode := .region (o14_28.map (·.2)) [0, 1, 2, 3, 4, 5] []
theorem s14_28 (h : wS fs out s.h.nx o14_28 s.t ⟨s.h.o, s.h.nx + 6⟩ (Q .normal)) : wC fs out c14_28 s Q := wC_region rfl rfl h
def c14_27 : ACode := .seq c14_28 .ret
theorem s14_27 (h : wS fs out s.h.nx o14_28 s.t ⟨s.h.o, s.h.nx + 6⟩ fun s1 => wC fs out .ret s1 Q) : wC fs out c14_27 s Q := wC_seq (s14_28 h)
def c14_15 : ACode := .seq c14_16 c14_27
theorem s14_15 (h : wC fs out c14_16 s fun e s1 => match e with | .normal => wC fs out c14_27 s1 Q | e => Q e s1) : wC fs out c14_15 s Q := wC_seq h
def c14_10 : ACode := .seq c14_11 c14_15
theorem s14_10 (h : wC fs out c14_11 s fun e s1 => match e with | .normal => wC fs out c14_15 s1 Q | e => Q e s1) : wC fs out c14_10 s Q := wC_seq h
def c14_8 : ACode := .seq c14_9 c14_10
theorem s14_8 (h : wS fs out s.h.nx o14_9 s.t ⟨s.h.o, s.h.nx + 6⟩ fun s1 => wC fs out c14_10 s1 Q) : wC fs out c14_8 s Q := wC_seq (s14_9 h)
def c14_2 : ACode := .seq c14_3 c14_8
theorem s14_2 (h : wC fs out c14_3 s fun e s1 => match e with | .normal => wC fs out c14_8 s1 Q | e => Q e s1) : wC fs out c14_2 s Q := wC_seq h
def c14_0 : ACode := .seq c14_1 c14_2
theorem s14_0 (h : wS fs out s.h.nx o14_1 s.t ⟨s.h.o, s.h.nx + 3⟩ fun s1 => wC fs out c14_2 s1 Q) : wC fs out c14_0 s Q := wC_seq (s14_1 h)
def a14 : AFunc := ⟨2, [4], some (some 3), c14_0⟩
theorem t14 : tell Try.prog Try.f14 [([2, 3, 4], [], []), ([2, 3, 4, 5], [], []), ([2, 4, 5], [], []), ([2, 4, 5], [], [])] = some a14 := by kernel_rfl
theorem ok14 : FuncOk Try.prog 14 a14 := tell_ok Try.func14 t14

/-- railplan/detector.Report -/
def o15_1 : List (Nat × AOper) := (0, ⟨some 1, .box 26 3 (.t 0), none⟩) ::
   (1, ⟨some 2, .mov (.k (.v (.one (.int .i64 0)))), none⟩) ::
   []
theorem h15_1 : wS fs out b o15_1 t h R = (wV fs out (b + 0) noT h (.box 26 3 (.k (t 0))) fun x1_0 h => wV fs out (b + 1) noT h (.mov (.k (.v (.one (.int .i64 0))))) fun x2_1 h => R ⟨(upd (upd t 1 x1_0) 2 x2_1), h⟩) := by kernel_rfl
def c15_1 : ACode := .region (o15_1.map (·.2)) [0, 1] []
theorem s15_1 (h : wS fs out s.h.nx o15_1 s.t ⟨s.h.o, s.h.nx + 2⟩ (Q .normal)) : wC fs out c15_1 s Q := wC_region rfl rfl h
def o15_5_3 : List (Nat × AOper) := (7, ⟨some 11, .pick (.t 7) (.k (.v (.one (.bool true)))) (.t 10), none⟩) ::
   (8, ⟨some 3, .mov (.t 11), none⟩) ::
   []
theorem h15_5_3 : wS fs out b o15_5_3 t h R = (wV fs out (b + 7) noT h (.pick (.k (t 7)) (.k (.v (.one (.bool true)))) (.k (t 10))) fun x11_0 h => wV fs out (b + 8) noT h (.mov (.k x11_0)) fun x3_1 h => R ⟨(upd (upd t 11 x11_0) 3 x3_1), h⟩) := by kernel_rfl
def o15_5_2g : List (Nat × AOper) := (4, ⟨some 8, .fadr 0 (.t 1), none⟩) ::
   (5, ⟨some 9, .load none (.t 8), none⟩) ::
   (6, ⟨some 10, .bin .neq (.t 9) (.k (.v (.one (.int .i64 0)))), none⟩) ::
   []
theorem h15_5_2g : wS fs out b o15_5_2g t h R = (wV fs out (b + 4) noT h (.fadr 0 (.k (t 1))) fun x8_0 h => wV fs out (b + 5) noT h (.load none (.k x8_0)) fun x9_1 h => wV fs out (b + 6) noT h (.bin .neq (.k x9_1) (.k (.v (.one (.int .i64 0))))) fun x10_2 h => R ⟨(upd (upd (upd t 8 x8_0) 9 x9_1) 10 x10_2), h⟩) := by kernel_rfl
def o15_5_2 : List (Nat × AOper) := grp 7 false o15_5_2g o15_5_3
theorem w15_5_2 : wS fs out b o15_5_2 t h R = onG (t 7) false (wS fs out b o15_5_2g (upd t 7 (.v (.one (.bool false)))) h fun s => wS fs out b o15_5_3 s.t s.h R) (wS fs out b o15_5_3 (upd (upd (upd (upd t 7 (.v (.one (.bool true)))) 8 (.tup [])) 9 (.tup [])) 10 (.tup [])) h R) (wS fs out b o15_5_3 (upd (upd (upd t 8 (.tup [])) 9 (.tup [])) 10 (.tup [])) h R) := wS_grpE rfl
def o15_5_1 : List (Nat × AOper) := (2, ⟨some 6, .not (.t 5), none⟩) ::
   (3, ⟨some 7, .mov (.t 6), none⟩) ::
   o15_5_2
theorem h15_5_1 : wS fs out b o15_5_1 t h R = (wV fs out (b + 2) noT h (.not (.k (t 5))) fun x6_0 h => wV fs out (b + 3) noT h (.mov (.k x6_0)) fun x7_1 h => wS fs out b o15_5_2 (upd (upd t 6 x6_0) 7 x7_1) h R) := by kernel_rfl
def o15_5 : List (Nat × AOper) := (0, ⟨some 4, .load (some 3) (.t 1), none⟩) ::
   (1, ⟨some 5, .call 26 [(.t 4)], none⟩) ::
   o15_5_1
theorem h15_5 : wS fs out b o15_5 t h R = (wV fs out (b + 0) noT h (.load (some 3) (.k (t 1))) fun x4_0 h => wV fs out (b + 1) noT h (.call 26 [(.k x4_0)]) fun x5_1 h => wS fs out b o15_5_1 (upd (upd t 4 x4_0) 5 x5_1) h R) := by kernel_rfl
def c15_5 : ACode := .region (o15_5.map (·.2)) [0, 1, 2, 3, 4, 5, 6, 7, 8] []
theorem s15_5 (h : wS fs out s.h.nx o15_5 s.t ⟨s.h.o, s.h.nx + 9⟩ (Q .normal)) : wC fs out c15_5 s Q := wC_region rfl rfl h
def o15_8 : List (Nat × AOper) := (0, ⟨some 2, .mov (.k (.v (.one (.int .i64 2)))), none⟩) ::
   []
theorem h15_8 : wS fs out b o15_8 t h R = (wV fs out (b + 0) noT h (.mov (.k (.v (.one (.int .i64 2))))) fun x2_0 h => R ⟨(upd t 2 x2_0), h⟩) := by kernel_rfl
def c15_8 : ACode := .region (o15_8.map (·.2)) [0] []
theorem s15_8 (h : wS fs out s.h.nx o15_8 s.t ⟨s.h.o, s.h.nx + 1⟩ (Q .normal)) : wC fs out c15_8 s Q := wC_region rfl rfl h
def c15_7 : ACode := .seq c15_8 .ret
theorem s15_7 (h : wS fs out s.h.nx o15_8 s.t ⟨s.h.o, s.h.nx + 1⟩ fun s1 => wC fs out .ret s1 Q) : wC fs out c15_7 s Q := wC_seq (s15_8 h)
def o15_10 : List (Nat × AOper) := (0, ⟨some 13, .fadr 1 (.t 1), none⟩) ::
   (1, ⟨some 14, .load none (.t 13), none⟩) ::
   (2, ⟨some 15, .bin .gtr (.t 14) (.k (.v (.one (.int .i64 0)))), none⟩) ::
   (3, ⟨some 12, .mov (.t 15), none⟩) ::
   []
theorem h15_10 : wS fs out b o15_10 t h R = (wV fs out (b + 0) noT h (.fadr 1 (.k (t 1))) fun x13_0 h => wV fs out (b + 1) noT h (.load none (.k x13_0)) fun x14_1 h => wV fs out (b + 2) noT h (.bin .gtr (.k x14_1) (.k (.v (.one (.int .i64 0))))) fun x15_2 h => wV fs out (b + 3) noT h (.mov (.k x15_2)) fun x12_3 h => R ⟨(upd (upd (upd (upd t 13 x13_0) 14 x14_1) 15 x15_2) 12 x12_3), h⟩) := by kernel_rfl
def c15_10 : ACode := .region (o15_10.map (·.2)) [0, 1, 2, 3] []
theorem s15_10 (h : wS fs out s.h.nx o15_10 s.t ⟨s.h.o, s.h.nx + 4⟩ (Q .normal)) : wC fs out c15_10 s Q := wC_region rfl rfl h
def o15_13 : List (Nat × AOper) := (0, ⟨some 2, .mov (.k (.v (.one (.int .i64 1)))), none⟩) ::
   []
theorem h15_13 : wS fs out b o15_13 t h R = (wV fs out (b + 0) noT h (.mov (.k (.v (.one (.int .i64 1))))) fun x2_0 h => R ⟨(upd t 2 x2_0), h⟩) := by kernel_rfl
def c15_13 : ACode := .region (o15_13.map (·.2)) [0] []
theorem s15_13 (h : wS fs out s.h.nx o15_13 s.t ⟨s.h.o, s.h.nx + 1⟩ (Q .normal)) : wC fs out c15_13 s Q := wC_region rfl rfl h
def c15_12 : ACode := .seq c15_13 .ret
theorem s15_12 (h : wS fs out s.h.nx o15_13 s.t ⟨s.h.o, s.h.nx + 1⟩ fun s1 => wC fs out .ret s1 Q) : wC fs out c15_12 s Q := wC_seq (s15_13 h)
def c15_11 : ACode := .cond (.t 12) c15_12 .skip [2]
theorem s15_11 (h : onC (s.t 12) (wC fs out c15_12 s fun e s1 => Q e (keepOnly [2] s1)) (Q .normal (keepOnly [2] s))) : wC fs out c15_11 s Q := wC_condC (by first | exact h | (simp only [wC_skip, wC_exit, wC_ret]; exact h))
def c15_9 : ACode := .seq c15_10 c15_11
theorem s15_9 (h : wS fs out s.h.nx o15_10 s.t ⟨s.h.o, s.h.nx + 4⟩ fun s1 => wC fs out c15_11 s1 Q) : wC fs out c15_9 s Q := wC_seq (s15_10 h)
def c15_6 : ACode := .cond (.t 3) c15_7 c15_9 [2]
theorem s15_6 (h : onC (s.t 3) (wC fs out c15_7 s fun e s1 => Q e (keepOnly [2] s1)) (wC fs out c15_9 s fun e s1 => Q e (keepOnly [2] s1))) : wC fs out c15_6 s Q := wC_condC (by first | exact h | (simp only [wC_skip, wC_exit, wC_ret]; exact h))
def c15_4 : ACode := .seq c15_5 c15_6
theorem s15_4 (h : wS fs out s.h.nx o15_5 s.t ⟨s.h.o, s.h.nx + 9⟩ fun s1 => wC fs out c15_6 s1 Q) : wC fs out c15_4 s Q := wC_seq (s15_5 h)
def c15_3 : ACode := .block 0 c15_4
theorem s15_3 (h : wC fs out c15_4 s fun e s1 => Q (if e = .exit 0 then .normal else e) s1) : wC fs out c15_3 s Q := wC_block h
def o15_15 : List (Nat × AOper) := (0, ⟨some 2, .mov (.k (.v (.one (.int .i64 0)))), none⟩) ::
   []
theorem h15_15 : wS fs out b o15_15 t h R = (wV fs out (b + 0) noT h (.mov (.k (.v (.one (.int .i64 0))))) fun x2_0 h => R ⟨(upd t 2 x2_0), h⟩) := by kernel_rfl
def c15_15 : ACode := .region (o15_15.map (·.2)) [0] []
theorem s15_15 (h : wS fs out s.h.nx o15_15 s.t ⟨s.h.o, s.h.nx + 1⟩ (Q .normal)) : wC fs out c15_15 s Q := wC_region rfl rfl h
def c15_14 : ACode := .seq c15_15 .ret
theorem s15_14 (h : wS fs out s.h.nx o15_15 s.t ⟨s.h.o, s.h.nx + 1⟩ fun s1 => wC fs out .ret s1 Q) : wC fs out c15_14 s Q := wC_seq (s15_15 h)
def c15_2 : ACode := .seq c15_3 c15_14
theorem s15_2 (h : wC fs out c15_3 s fun e s1 => match e with | .normal => wC fs out c15_14 s1 Q | e => Q e s1) : wC fs out c15_2 s Q := wC_seq h
def c15_0 : ACode := .seq c15_1 c15_2
theorem s15_0 (h : wS fs out s.h.nx o15_1 s.t ⟨s.h.o, s.h.nx + 2⟩ fun s1 => wC fs out c15_2 s1 Q) : wC fs out c15_0 s Q := wC_seq (s15_1 h)
def a15 : AFunc := ⟨1, [2], none, c15_0⟩
theorem t15 : tell Try.prog Try.f15 [([2], [], []), ([2], [], [])] = some a15 := by kernel_rfl
theorem ok15 : FuncOk Try.prog 15 a15 := tell_ok Try.func15 t15

/-- railplan/railplanlaw31.awake -/
def o16_1 : List (Nat × AOper) := (0, ⟨some 0, .mov (.k (.v (.one (.bool false)))), none⟩) ::
   []
theorem h16_1 : wS fs out b o16_1 t h R = (wV fs out (b + 0) noT h (.mov (.k (.v (.one (.bool false))))) fun x0_0 h => R ⟨(upd t 0 x0_0), h⟩) := by kernel_rfl
def c16_1 : ACode := .region (o16_1.map (·.2)) [0] []
theorem s16_1 (h : wS fs out s.h.nx o16_1 s.t ⟨s.h.o, s.h.nx + 1⟩ (Q .normal)) : wC fs out c16_1 s Q := wC_region rfl rfl h
def o16_3_1 : List (Nat × AOper) := (3, ⟨some 1, .new 26 [(.int .i64 0), (.int .i64 0), (.int .i64 0)], none⟩) ::
   (4, ⟨none, .store 3 (.t 1) (.t 5), none⟩) ::
   []
theorem h16_3_1 : wS fs out b o16_3_1 t h R = (wV fs out (b + 3) noT h (.new 26 [(.int .i64 0), (.int .i64 0), (.int .i64 0)]) fun x1_0 h => wV fs out (b + 4) noT h (.store 3 (.k x1_0) (.k (t 5))) fun _ h => R ⟨(upd t 1 x1_0), h⟩) := by kernel_rfl
def o16_3 : List (Nat × AOper) := (0, ⟨some 3, .build [(.int .i64 0), (.int .i64 0), (.int .i64 0)] [], none⟩) ::
   (1, ⟨some 4, .build [(.int .i64 0), (.bool false), (.int .i64 0), (.int .i64 0)] [(1, 1, (.k (.v (.one (.bool true))))), (2, 1, (.k (.v (.one (.int .i64 4))))), (3, 1, (.k (.v (.one (.int .i64 4)))))], none⟩) ::
   (2, ⟨some 5, .call 14 [(.t 3), (.t 4)], none⟩) ::
   o16_3_1
theorem h16_3 : wS fs out b o16_3 t h R = (wV fs out (b + 0) noT h (.build [(.int .i64 0), (.int .i64 0), (.int .i64 0)] []) fun x3_0 h => wV fs out (b + 1) noT h (.build [(.int .i64 0), (.bool false), (.int .i64 0), (.int .i64 0)] [(1, 1, (.k (.v (.one (.bool true))))), (2, 1, (.k (.v (.one (.int .i64 4))))), (3, 1, (.k (.v (.one (.int .i64 4)))))]) fun x4_1 h => wV fs out (b + 2) noT h (.call 14 [(.k x3_0), (.k x4_1)]) fun x5_2 h => wS fs out b o16_3_1 (upd (upd (upd t 3 x3_0) 4 x4_1) 5 x5_2) h R) := by kernel_rfl
def c16_3 : ACode := .region (o16_3.map (·.2)) [0, 1, 2, 3, 4] []
theorem s16_3 (h : wS fs out s.h.nx o16_3 s.t ⟨s.h.o, s.h.nx + 5⟩ (Q .normal)) : wC fs out c16_3 s Q := wC_region rfl rfl h
def o16_5_1 : List (Nat × AOper) := (3, ⟨some 2, .new 26 [(.int .i64 0), (.int .i64 0), (.int .i64 0)], none⟩) ::
   (4, ⟨none, .store 3 (.t 2) (.t 8), none⟩) ::
   []
theorem h16_5_1 : wS fs out b o16_5_1 t h R = (wV fs out (b + 3) noT h (.new 26 [(.int .i64 0), (.int .i64 0), (.int .i64 0)]) fun x2_0 h => wV fs out (b + 4) noT h (.store 3 (.k x2_0) (.k (t 8))) fun _ h => R ⟨(upd t 2 x2_0), h⟩) := by kernel_rfl
def o16_5 : List (Nat × AOper) := (0, ⟨some 6, .load (some 3) (.t 1), none⟩) ::
   (1, ⟨some 7, .build [(.int .i64 0), (.bool false), (.int .i64 0), (.int .i64 0)] [(2, 1, (.k (.v (.one (.int .i64 4))))), (3, 1, (.k (.v (.one (.int .i64 3)))))], none⟩) ::
   (2, ⟨some 8, .call 14 [(.t 6), (.t 7)], none⟩) ::
   o16_5_1
theorem h16_5 : wS fs out b o16_5 t h R = (wV fs out (b + 0) noT h (.load (some 3) (.k (t 1))) fun x6_0 h => wV fs out (b + 1) noT h (.build [(.int .i64 0), (.bool false), (.int .i64 0), (.int .i64 0)] [(2, 1, (.k (.v (.one (.int .i64 4))))), (3, 1, (.k (.v (.one (.int .i64 3)))))]) fun x7_1 h => wV fs out (b + 2) noT h (.call 14 [(.k x6_0), (.k x7_1)]) fun x8_2 h => wS fs out b o16_5_1 (upd (upd (upd t 6 x6_0) 7 x7_1) 8 x8_2) h R) := by kernel_rfl
def c16_5 : ACode := .region (o16_5.map (·.2)) [0, 1, 2, 3, 4] []
theorem s16_5 (h : wS fs out s.h.nx o16_5 s.t ⟨s.h.o, s.h.nx + 5⟩ (Q .normal)) : wC fs out c16_5 s Q := wC_region rfl rfl h
def o16_7_6 : List (Nat × AOper) := (17, ⟨some 26, .pick (.t 22) (.t 25) (.k (.v (.one (.bool false)))), none⟩) ::
   (18, ⟨some 0, .mov (.t 26), none⟩) ::
   []
theorem h16_7_6 : wS fs out b o16_7_6 t h R = (wV fs out (b + 17) noT h (.pick (.k (t 22)) (.k (t 25)) (.k (.v (.one (.bool false))))) fun x26_0 h => wV fs out (b + 18) noT h (.mov (.k x26_0)) fun x0_1 h => R ⟨(upd (upd t 26 x26_0) 0 x0_1), h⟩) := by kernel_rfl
def o16_7_5g_1 : List (Nat × AOper) := (16, ⟨some 25, .bin .eql (.t 24) (.k (.v (.one (.int .i64 2)))), none⟩) ::
   []
theorem h16_7_5g_1 : wS fs out b o16_7_5g_1 t h R = (wV fs out (b + 16) noT h (.bin .eql (.k (t 24)) (.k (.v (.one (.int .i64 2))))) fun x25_0 h => R ⟨(upd t 25 x25_0), h⟩) := by kernel_rfl
def o16_7_5g : List (Nat × AOper) := (14, ⟨some 23, .load (some 3) (.t 2), none⟩) ::
   (15, ⟨some 24, .call 15 [(.t 23)], none⟩) ::
   o16_7_5g_1
theorem h16_7_5g : wS fs out b o16_7_5g t h R = (wV fs out (b + 14) noT h (.load (some 3) (.k (t 2))) fun x23_0 h => wV fs out (b + 15) noT h (.call 15 [(.k x23_0)]) fun x24_1 h => wS fs out b o16_7_5g_1 (upd (upd t 23 x23_0) 24 x24_1) h R) := by kernel_rfl
def o16_7_5 : List (Nat × AOper) := grp 22 true o16_7_5g o16_7_6
theorem w16_7_5 : wS fs out b o16_7_5 t h R = onG (t 22) true (wS fs out b o16_7_5g (upd t 22 (.v (.one (.bool true)))) h fun s => wS fs out b o16_7_6 s.t s.h R) (wS fs out b o16_7_6 (upd (upd (upd (upd t 22 (.v (.one (.bool false)))) 23 (.tup [])) 24 (.tup [])) 25 (.tup [])) h R) (wS fs out b o16_7_6 (upd (upd (upd t 23 (.tup [])) 24 (.tup [])) 25 (.tup [])) h R) := wS_grpE rfl
def o16_7_4 : List (Nat × AOper) := (12, ⟨some 21, .pick (.t 17) (.t 20) (.k (.v (.one (.bool false)))), none⟩) ::
   (13, ⟨some 22, .mov (.t 21), none⟩) ::
   o16_7_5
theorem h16_7_4 : wS fs out b o16_7_4 t h R = (wV fs out (b + 12) noT h (.pick (.k (t 17)) (.k (t 20)) (.k (.v (.one (.bool false))))) fun x21_0 h => wV fs out (b + 13) noT h (.mov (.k x21_0)) fun x22_1 h => wS fs out b o16_7_5 (upd (upd t 21 x21_0) 22 x22_1) h R) := by kernel_rfl
def o16_7_3g : List (Nat × AOper) := (9, ⟨some 18, .load (some 3) (.t 2), none⟩) ::
   (10, ⟨some 19, .build [(.int .i64 0), (.int .i64 0), (.int .i64 0)] [(0, 1, (.k (.v (.one (.int .i64 1)))))], none⟩) ::
   (11, ⟨some 20, .eqs false [true, true, true] (.t 18) (.t 19), none⟩) ::
   []
theorem h16_7_3g : wS fs out b o16_7_3g t h R = (wV fs out (b + 9) noT h (.load (some 3) (.k (t 2))) fun x18_0 h => wV fs out (b + 10) noT h (.build [(.int .i64 0), (.int .i64 0), (.int .i64 0)] [(0, 1, (.k (.v (.one (.int .i64 1)))))]) fun x19_1 h => wV fs out (b + 11) noT h (.eqs false [true, true, true] (.k x18_0) (.k x19_1)) fun x20_2 h => R ⟨(upd (upd (upd t 18 x18_0) 19 x19_1) 20 x20_2), h⟩) := by kernel_rfl
def o16_7_3 : List (Nat × AOper) := grp 17 true o16_7_3g o16_7_4
theorem w16_7_3 : wS fs out b o16_7_3 t h R = onG (t 17) true (wS fs out b o16_7_3g (upd t 17 (.v (.one (.bool true)))) h fun s => wS fs out b o16_7_4 s.t s.h R) (wS fs out b o16_7_4 (upd (upd (upd (upd t 17 (.v (.one (.bool false)))) 18 (.tup [])) 19 (.tup [])) 20 (.tup [])) h R) (wS fs out b o16_7_4 (upd (upd (upd t 18 (.tup [])) 19 (.tup [])) 20 (.tup [])) h R) := wS_grpE rfl
def o16_7_2 : List (Nat × AOper) := (7, ⟨some 16, .pick (.t 12) (.t 15) (.k (.v (.one (.bool false)))), none⟩) ::
   (8, ⟨some 17, .mov (.t 16), none⟩) ::
   o16_7_3
theorem h16_7_2 : wS fs out b o16_7_2 t h R = (wV fs out (b + 7) noT h (.pick (.k (t 12)) (.k (t 15)) (.k (.v (.one (.bool false))))) fun x16_0 h => wV fs out (b + 8) noT h (.mov (.k x16_0)) fun x17_1 h => wS fs out b o16_7_3 (upd (upd t 16 x16_0) 17 x17_1) h R) := by kernel_rfl
def o16_7_1g_1 : List (Nat × AOper) := (6, ⟨some 15, .bin .eql (.t 14) (.k (.v (.one (.int .i64 1)))), none⟩) ::
   []
theorem h16_7_1g_1 : wS fs out b o16_7_1g_1 t h R = (wV fs out (b + 6) noT h (.bin .eql (.k (t 14)) (.k (.v (.one (.int .i64 1))))) fun x15_0 h => R ⟨(upd t 15 x15_0), h⟩) := by kernel_rfl
def o16_7_1g : List (Nat × AOper) := (4, ⟨some 13, .load (some 3) (.t 1), none⟩) ::
   (5, ⟨some 14, .call 15 [(.t 13)], none⟩) ::
   o16_7_1g_1
theorem h16_7_1g : wS fs out b o16_7_1g t h R = (wV fs out (b + 4) noT h (.load (some 3) (.k (t 1))) fun x13_0 h => wV fs out (b + 5) noT h (.call 15 [(.k x13_0)]) fun x14_1 h => wS fs out b o16_7_1g_1 (upd (upd t 13 x13_0) 14 x14_1) h R) := by kernel_rfl
def o16_7_1 : List (Nat × AOper) := grp 12 true o16_7_1g o16_7_2
theorem w16_7_1 : wS fs out b o16_7_1 t h R = onG (t 12) true (wS fs out b o16_7_1g (upd t 12 (.v (.one (.bool true)))) h fun s => wS fs out b o16_7_2 s.t s.h R) (wS fs out b o16_7_2 (upd (upd (upd (upd t 12 (.v (.one (.bool false)))) 13 (.tup [])) 14 (.tup [])) 15 (.tup [])) h R) (wS fs out b o16_7_2 (upd (upd (upd t 13 (.tup [])) 14 (.tup [])) 15 (.tup [])) h R) := wS_grpE rfl
def o16_7 : List (Nat × AOper) := (0, ⟨some 9, .load (some 3) (.t 1), none⟩) ::
   (1, ⟨some 10, .build [(.int .i64 0), (.int .i64 0), (.int .i64 0)] [(1, 1, (.k (.v (.one (.int .i64 4))))), (2, 1, (.k (.v (.one (.int .i64 4)))))], none⟩) ::
   (2, ⟨some 11, .eqs false [true, true, true] (.t 9) (.t 10), none⟩) ::
   (3, ⟨some 12, .mov (.t 11), none⟩) ::
   o16_7_1
theorem h16_7 : wS fs out b o16_7 t h R = (wV fs out (b + 0) noT h (.load (some 3) (.k (t 1))) fun x9_0 h => wV fs out (b + 1) noT h (.build [(.int .i64 0), (.int .i64 0), (.int .i64 0)] [(1, 1, (.k (.v (.one (.int .i64 4))))), (2, 1, (.k (.v (.one (.int .i64 4)))))]) fun x10_1 h => wV fs out (b + 2) noT h (.eqs false [true, true, true] (.k x9_0) (.k x10_1)) fun x11_2 h => wV fs out (b + 3) noT h (.mov (.k x11_2)) fun x12_3 h => wS fs out b o16_7_1 (upd (upd (upd (upd t 9 x9_0) 10 x10_1) 11 x11_2) 12 x12_3) h R) := by kernel_rfl
def c16_7 : ACode := .region (o16_7.map (·.2)) [0, 1, 2, 3, 4, 5, 6, 7, 8, 9, 10, 11, 12, 13, 14, 15, 16, 17, 18] []
theorem s16_7 (h : wS fs out s.h.nx o16_7 s.t ⟨s.h.o, s.h.nx + 19⟩ (Q .normal)) : wC fs out c16_7 s Q := wC_region rfl rfl h
def c16_6 : ACode := .seq c16_7 .ret
theorem s16_6 (h : wS fs out s.h.nx o16_7 s.t ⟨s.h.o, s.h.nx + 19⟩ fun s1 => wC fs out .ret s1 Q) : wC fs out c16_6 s Q := wC_seq (s16_7 h)
def c16_4 : ACode := .seq c16_5 c16_6
theorem s16_4 (h : wS fs out s.h.nx o16_5 s.t ⟨s.h.o, s.h.nx + 5⟩ fun s1 => wC fs out c16_6 s1 Q) : wC fs out c16_4 s Q := wC_seq (s16_5 h)
def c16_2 : ACode := .seq c16_3 c16_4
theorem s16_2 (h : wS fs out s.h.nx o16_3 s.t ⟨s.h.o, s.h.nx + 5⟩ fun s1 => wC fs out c16_4 s1 Q) : wC fs out c16_2 s Q := wC_seq (s16_3 h)
def c16_0 : ACode := .seq c16_1 c16_2
theorem s16_0 (h : wS fs out s.h.nx o16_1 s.t ⟨s.h.o, s.h.nx + 1⟩ fun s1 => wC fs out c16_2 s1 Q) : wC fs out c16_0 s Q := wC_seq (s16_1 h)
def a16 : AFunc := ⟨0, [0], none, c16_0⟩
theorem t16 : tell Try.prog Try.f16 [] = some a16 := by kernel_rfl
theorem ok16 : FuncOk Try.prog 16 a16 := tell_ok Try.func16 t16

/-- railplan/railplankeep.Pick -/
def o17_1 : List (Nat × AOper) := (0, ⟨some 4, .mov (.k (.v (.one (.int .i64 0)))), none⟩) ::
   []
theorem h17_1 : wS fs out b o17_1 t h R = (wV fs out (b + 0) noT h (.mov (.k (.v (.one (.int .i64 0))))) fun x4_0 h => R ⟨(upd t 4 x4_0), h⟩) := by kernel_rfl
def c17_1 : ACode := .region (o17_1.map (·.2)) [0] []
theorem s17_1 (h : wS fs out s.h.nx o17_1 s.t ⟨s.h.o, s.h.nx + 1⟩ (Q .normal)) : wC fs out c17_1 s Q := wC_region rfl rfl h
def o17_3 : List (Nat × AOper) := (0, ⟨some 5, .mov (.t 0), none⟩) ::
   (1, ⟨some 6, .conv .u64 (.t 5), none⟩) ::
   (2, ⟨some 7, .mov (.t 1), none⟩) ::
   (3, ⟨some 8, .conv .u64 (.t 7), none⟩) ::
   (4, ⟨some 9, .bin .rem (.t 6) (.t 8), none⟩) ::
   (5, ⟨some 10, .conv .i64 (.t 9), none⟩) ::
   (6, ⟨some 4, .mov (.t 10), none⟩) ::
   []
theorem h17_3 : wS fs out b o17_3 t h R = (wV fs out (b + 0) noT h (.mov (.k (t 0))) fun x5_0 h => wV fs out (b + 1) noT h (.conv .u64 (.k x5_0)) fun x6_1 h => wV fs out (b + 2) noT h (.mov (.k (t 1))) fun x7_2 h => wV fs out (b + 3) noT h (.conv .u64 (.k x7_2)) fun x8_3 h => wV fs out (b + 4) noT h (.bin .rem (.k x6_1) (.k x8_3)) fun x9_4 h => wV fs out (b + 5) noT h (.conv .i64 (.k x9_4)) fun x10_5 h => wV fs out (b + 6) noT h (.mov (.k x10_5)) fun x4_6 h => R ⟨(upd (upd (upd (upd (upd (upd (upd t 5 x5_0) 6 x6_1) 7 x7_2) 8 x8_3) 9 x9_4) 10 x10_5) 4 x4_6), h⟩) := by kernel_rfl
def c17_3 : ACode := .region (o17_3.map (·.2)) [0, 1, 2, 3, 4, 5, 6] []
theorem s17_3 (h : wS fs out s.h.nx o17_3 s.t ⟨s.h.o, s.h.nx + 7⟩ (Q .normal)) : wC fs out c17_3 s Q := wC_region rfl rfl h
def c17_2 : ACode := .seq c17_3 .ret
theorem s17_2 (h : wS fs out s.h.nx o17_3 s.t ⟨s.h.o, s.h.nx + 7⟩ fun s1 => wC fs out .ret s1 Q) : wC fs out c17_2 s Q := wC_seq (s17_3 h)
def c17_0 : ACode := .seq c17_1 c17_2
theorem s17_0 (h : wS fs out s.h.nx o17_1 s.t ⟨s.h.o, s.h.nx + 1⟩ fun s1 => wC fs out c17_2 s1 Q) : wC fs out c17_0 s Q := wC_seq (s17_1 h)
def a17 : AFunc := ⟨2, [4], none, c17_0⟩
theorem t17 : tell Try.prog Try.f17 [] = some a17 := by kernel_rfl
theorem ok17 : FuncOk Try.prog 17 a17 := tell_ok Try.func17 t17

/-- railplan/detector.Reset -/
def o18_1 : List (Nat × AOper) := (0, ⟨some 1, .box 26 3 (.t 0), none⟩) ::
   (1, ⟨some 2, .new 26 [(.int .i64 0), (.int .i64 0), (.int .i64 0)], none⟩) ::
   []
theorem h18_1 : wS fs out b o18_1 t h R = (wV fs out (b + 0) noT h (.box 26 3 (.k (t 0))) fun x1_0 h => wV fs out (b + 1) noT h (.new 26 [(.int .i64 0), (.int .i64 0), (.int .i64 0)]) fun x2_1 h => R ⟨(upd (upd t 1 x1_0) 2 x2_1), h⟩) := by kernel_rfl
def c18_1 : ACode := .region (o18_1.map (·.2)) [0, 1] []
theorem s18_1 (h : wS fs out s.h.nx o18_1 s.t ⟨s.h.o, s.h.nx + 2⟩ (Q .normal)) : wC fs out c18_1 s Q := wC_region rfl rfl h
def o18_4 : List (Nat × AOper) := (0, ⟨some 3, .load (some 3) (.t 1), none⟩) ::
   (1, ⟨some 4, .call 26 [(.t 3)], none⟩) ::
   []
theorem h18_4 : wS fs out b o18_4 t h R = (wV fs out (b + 0) noT h (.load (some 3) (.k (t 1))) fun x3_0 h => wV fs out (b + 1) noT h (.call 26 [(.k x3_0)]) fun x4_1 h => R ⟨(upd (upd t 3 x3_0) 4 x4_1), h⟩) := by kernel_rfl
def c18_4 : ACode := .region (o18_4.map (·.2)) [0, 1] []
theorem s18_4 (h : wS fs out s.h.nx o18_4 s.t ⟨s.h.o, s.h.nx + 2⟩ (Q .normal)) : wC fs out c18_4 s Q := wC_region rfl rfl h
def o18_7 : List (Nat × AOper) := (0, ⟨some 5, .load (some 3) (.t 1), none⟩) ::
   (1, ⟨none, .store 3 (.t 2) (.t 5), none⟩) ::
   []
theorem h18_7 : wS fs out b o18_7 t h R = (wV fs out (b + 0) noT h (.load (some 3) (.k (t 1))) fun x5_0 h => wV fs out (b + 1) noT h (.store 3 (.k (t 2)) (.k x5_0)) fun _ h => R ⟨(upd t 5 x5_0), h⟩) := by kernel_rfl
def c18_7 : ACode := .region (o18_7.map (·.2)) [0, 1] []
theorem s18_7 (h : wS fs out s.h.nx o18_7 s.t ⟨s.h.o, s.h.nx + 2⟩ (Q .normal)) : wC fs out c18_7 s Q := wC_region rfl rfl h
def c18_6 : ACode := .seq c18_7 .ret
theorem s18_6 (h : wS fs out s.h.nx o18_7 s.t ⟨s.h.o, s.h.nx + 2⟩ fun s1 => wC fs out .ret s1 Q) : wC fs out c18_6 s Q := wC_seq (s18_7 h)
def c18_5 : ACode := .cond (.t 4) c18_6 .skip [2]
theorem s18_5 (h : onC (s.t 4) (wC fs out c18_6 s fun e s1 => Q e (keepOnly [2] s1)) (Q .normal (keepOnly [2] s))) : wC fs out c18_5 s Q := wC_condC (by first | exact h | (simp only [wC_skip, wC_exit, wC_ret]; exact h))
def c18_3 : ACode := .seq c18_4 c18_5
theorem s18_3 (h : wS fs out s.h.nx o18_4 s.t ⟨s.h.o, s.h.nx + 2⟩ fun s1 => wC fs out c18_5 s1 Q) : wC fs out c18_3 s Q := wC_seq (s18_4 h)
def o18_9 : List (Nat × AOper) := (0, ⟨some 6, .build [(.int .i64 0), (.int .i64 0), (.int .i64 0)] [(0, 1, (.k (.v (.one (.int .i64 2)))))], none⟩) ::
   (1, ⟨none, .store 3 (.t 2) (.t 6), none⟩) ::
   []
theorem h18_9 : wS fs out b o18_9 t h R = (wV fs out (b + 0) noT h (.build [(.int .i64 0), (.int .i64 0), (.int .i64 0)] [(0, 1, (.k (.v (.one (.int .i64 2)))))]) fun x6_0 h => wV fs out (b + 1) noT h (.store 3 (.k (t 2)) (.k x6_0)) fun _ h => R ⟨(upd t 6 x6_0), h⟩) := by kernel_rfl
def c18_9 : ACode := .region (o18_9.map (·.2)) [0, 1] []
theorem s18_9 (h : wS fs out s.h.nx o18_9 s.t ⟨s.h.o, s.h.nx + 2⟩ (Q .normal)) : wC fs out c18_9 s Q := wC_region rfl rfl h
def c18_8 : ACode := .seq c18_9 .ret
theorem s18_8 (h : wS fs out s.h.nx o18_9 s.t ⟨s.h.o, s.h.nx + 2⟩ fun s1 => wC fs out .ret s1 Q) : wC fs out c18_8 s Q := wC_seq (s18_9 h)
def c18_2 : ACode := .seq c18_3 c18_8
theorem s18_2 (h : wC fs out c18_3 s fun e s1 => match e with | .normal => wC fs out c18_8 s1 Q | e => Q e s1) : wC fs out c18_2 s Q := wC_seq h
def c18_0 : ACode := .seq c18_1 c18_2
theorem s18_0 (h : wS fs out s.h.nx o18_1 s.t ⟨s.h.o, s.h.nx + 2⟩ fun s1 => wC fs out c18_2 s1 Q) : wC fs out c18_0 s Q := wC_seq (s18_1 h)
def a18 : AFunc := ⟨1, [2], some (some 3), c18_0⟩
theorem t18 : tell Try.prog Try.f18 [([2], [], [])] = some a18 := by kernel_rfl
theorem ok18 : FuncOk Try.prog 18 a18 := tell_ok Try.func18 t18

end Go.Proofs.Ytellgcahkpaldaa.Fn
