/- Functions of the program, as the abstract machine's, and that they are. Conditions: none. -/
import Derived.Test.YthoicdnlcnppgaaAmCo
import Derived.Test.YthoicdnlcnppgaaAmEv
import Derived.Test.YthoicdnlcnppgaaProg
set_option linter.unusedVariables false
set_option linter.unusedSimpArgs false
namespace Go.Proofs.Ythoicdnlcnppgaa.Fn
open Go Go.Am
set_option maxRecDepth 100000
variable {fs : Nat → Option AFunc} {out : Rec} {s : St} {Q : AExit → St → Prop} {b : Nat} {t : Nat → T} {h : AH} {R : St → Prop}
/-- railplan/railplanlaw34.example -/
def o25_1 : List (Nat × AOper) := (0, ⟨some 2, .mov (.k (.v (.one .nils))), none⟩) ::
   (1, ⟨some 3, .mov (.k (.v (.one .nils))), none⟩) ::
   (2, ⟨some 4, .mov (.k (.v (.one .nils))), none⟩) ::
   []
theorem h25_1 : wS fs out b o25_1 t h R = (wV fs out (b + 0) noT h (.mov (.k (.v (.one .nils)))) fun x2_0 h => wV fs out (b + 1) noT h (.mov (.k (.v (.one .nils)))) fun x3_1 h => wV fs out (b + 2) noT h (.mov (.k (.v (.one .nils)))) fun x4_2 h => R ⟨(upd (upd (upd t 2 x2_0) 3 x3_1) 4 x4_2), h⟩) := by kernel_rfl
def c25_1 : ACode := .region (o25_1.map (·.2)) [0, 1, 2] []
theorem s25_1 (h : wS fs out s.h.nx o25_1 s.t ⟨s.h.o, s.h.nx + 3⟩ (Q .normal)) : wC fs out c25_1 s Q := wC_region rfl rfl h
def o25_3_1 : List (Nat × AOper) := (10, ⟨some 2, .mov (.t 8), none⟩) ::
   (11, ⟨some 3, .mov (.t 11), none⟩) ::
   (12, ⟨some 4, .mov (.t 14), none⟩) ::
   []
theorem h25_3_1 : wS fs out b o25_3_1 t h R = (wV fs out (b + 10) noT h (.mov (.k (t 8))) fun x2_0 h => wV fs out (b + 11) noT h (.mov (.k (t 11))) fun x3_1 h => wV fs out (b + 12) noT h (.mov (.k (t 14))) fun x4_2 h => R ⟨(upd (upd (upd t 2 x2_0) 3 x3_1) 4 x4_2), h⟩) := by kernel_rfl
def o25_3 : List (Nat × AOper) := (0, ⟨some 5, .build [(.int .i64 0), (.bool false)] [(0, 1, (.k (.v (.one (.int .i64 100))))), (1, 1, (.k (.v (.one (.bool true)))))], none⟩) ::
   (1, ⟨some 6, .build [(.int .i64 0), (.bool false)] [(0, 1, (.k (.v (.one (.int .i64 160)))))], none⟩) ::
   (2, ⟨some 7, .build [(.int .i64 0), (.bool false)] [(0, 1, (.k (.v (.one (.int .i64 200))))), (1, 1, (.k (.v (.one (.bool true)))))], none⟩) ::
   (3, ⟨some 8, .bsl 33 2 3 [(.int .i64 0), (.bool false)] [(0, 2, (.t 5)), (2, 2, (.t 6)), (4, 2, (.t 7))], none⟩) ::
   (4, ⟨some 9, .build [(.int .i64 0), (.int .i64 0), (.int .i64 0), (.int .i64 0)] [(0, 1, (.k (.v (.one (.int .i64 0))))), (1, 1, (.k (.v (.one (.int .i64 1))))), (2, 1, (.k (.v (.one (.int .i64 50))))), (3, 1, (.k (.v (.one (.int .i64 (-1))))))], none⟩) ::
   (5, ⟨some 10, .build [(.int .i64 0), (.int .i64 0), (.int .i64 0), (.int .i64 0)] [(0, 1, (.k (.v (.one (.int .i64 1))))), (1, 1, (.k (.v (.one (.int .i64 2))))), (2, 1, (.k (.v (.one (.int .i64 20))))), (3, 1, (.k (.v (.one (.int .i64 30)))))], none⟩) ::
   (6, ⟨some 11, .bsl 35 4 2 [(.int .i64 0), (.int .i64 0), (.int .i64 0), (.int .i64 0)] [(0, 4, (.t 9)), (4, 4, (.t 10))], none⟩) ::
   (7, ⟨some 12, .mov (.t 0), none⟩) ::
   (8, ⟨some 13, .build [(.int .i64 0), (.int .i64 0)] [(1, 1, (.t 12))], none⟩) ::
   (9, ⟨some 14, .bsl 39 2 1 [(.int .i64 0), (.int .i64 0)] [(0, 2, (.t 13))], none⟩) ::
   o25_3_1
theorem h25_3 : wS fs out b o25_3 t h R = (wV fs out (b + 0) noT h (.build [(.int .i64 0), (.bool false)] [(0, 1, (.k (.v (.one (.int .i64 100))))), (1, 1, (.k (.v (.one (.bool true)))))]) fun x5_0 h => wV fs out (b + 1) noT h (.build [(.int .i64 0), (.bool false)] [(0, 1, (.k (.v (.one (.int .i64 160)))))]) fun x6_1 h => wV fs out (b + 2) noT h (.build [(.int .i64 0), (.bool false)] [(0, 1, (.k (.v (.one (.int .i64 200))))), (1, 1, (.k (.v (.one (.bool true)))))]) fun x7_2 h => wV fs out (b + 3) noT h (.bsl 33 2 3 [(.int .i64 0), (.bool false)] [(0, 2, (.k x5_0)), (2, 2, (.k x6_1)), (4, 2, (.k x7_2))]) fun x8_3 h => wV fs out (b + 4) noT h (.build [(.int .i64 0), (.int .i64 0), (.int .i64 0), (.int .i64 0)] [(0, 1, (.k (.v (.one (.int .i64 0))))), (1, 1, (.k (.v (.one (.int .i64 1))))), (2, 1, (.k (.v (.one (.int .i64 50))))), (3, 1, (.k (.v (.one (.int .i64 (-1))))))]) fun x9_4 h => wV fs out (b + 5) noT h (.build [(.int .i64 0), (.int .i64 0), (.int .i64 0), (.int .i64 0)] [(0, 1, (.k (.v (.one (.int .i64 1))))), (1, 1, (.k (.v (.one (.int .i64 2))))), (2, 1, (.k (.v (.one (.int .i64 20))))), (3, 1, (.k (.v (.one (.int .i64 30)))))]) fun x10_5 h => wV fs out (b + 6) noT h (.bsl 35 4 2 [(.int .i64 0), (.int .i64 0), (.int .i64 0), (.int .i64 0)] [(0, 4, (.k x9_4)), (4, 4, (.k x10_5))]) fun x11_6 h => wV fs out (b + 7) noT h (.mov (.k (t 0))) fun x12_7 h => wV fs out (b + 8) noT h (.build [(.int .i64 0), (.int .i64 0)] [(1, 1, (.k x12_7))]) fun x13_8 h => wV fs out (b + 9) noT h (.bsl 39 2 1 [(.int .i64 0), (.int .i64 0)] [(0, 2, (.k x13_8))]) fun x14_9 h => wS fs out b o25_3_1 (upd (upd (upd (upd (upd (upd (upd (upd (upd (upd t 5 x5_0) 6 x6_1) 7 x7_2) 8 x8_3) 9 x9_4) 10 x10_5) 11 x11_6) 12 x12_7) 13 x13_8) 14 x14_9) h R) := by kernel_rfl
def c25_3 : ACode := .region (o25_3.map (·.2)) [0, 1, 2, 3, 4, 5, 6, 7, 8, 9, 10, 11, 12] []
theorem s25_3 (h : wS fs out s.h.nx o25_3 s.t ⟨s.h.o, s.h.nx + 13⟩ (Q .normal)) : wC fs out c25_3 s Q := wC_region rfl rfl h
def c25_2 : ACode := .seq c25_3 .ret
theorem s25_2 (h : wS fs out s.h.nx o25_3 s.t ⟨s.h.o, s.h.nx + 13⟩ fun s1 => wC fs out .ret s1 Q) : wC fs out c25_2 s Q := wC_seq (s25_3 h)
def c25_0 : ACode := .seq c25_1 c25_2
theorem s25_0 (h : wS fs out s.h.nx o25_1 s.t ⟨s.h.o, s.h.nx + 3⟩ fun s1 => wC fs out c25_2 s1 Q) : wC fs out c25_0 s Q := wC_seq (s25_1 h)
def a25 : AFunc := ⟨1, [2, 3, 4], none, c25_0⟩
theorem t25 : tell Try.prog Try.f25 [] = some a25 := by kernel_rfl
theorem ok25 : FuncOk Try.prog 25 a25 := tell_ok Try.func25 t25

/-- railplan/railplankeep.From -/
def o26_1 : List (Nat × AOper) := (0, ⟨some 2, .mov (.k (.v (.one .nilp))), none⟩) ::
   []
theorem h26_1 : wS fs out b o26_1 t h R = (wV fs out (b + 0) noT h (.mov (.k (.v (.one .nilp)))) fun x2_0 h => R ⟨(upd t 2 x2_0), h⟩) := by kernel_rfl
def c26_1 : ACode := .region (o26_1.map (·.2)) [0] []
theorem s26_1 (h : wS fs out s.h.nx o26_1 s.t ⟨s.h.o, s.h.nx + 1⟩ (Q .normal)) : wC fs out c26_1 s Q := wC_region rfl rfl h
def o26_3 : List (Nat × AOper) := (0, ⟨some 3, .mov (.t 0), none⟩) ::
   (1, ⟨some 4, .build [.nils, (.int .i64 0)] [(0, 1, (.t 3))], none⟩) ::
   (2, ⟨some 5, .box 67 2 (.t 4), none⟩) ::
   (3, ⟨some 2, .mov (.t 5), none⟩) ::
   []
theorem h26_3 : wS fs out b o26_3 t h R = (wV fs out (b + 0) noT h (.mov (.k (t 0))) fun x3_0 h => wV fs out (b + 1) noT h (.build [.nils, (.int .i64 0)] [(0, 1, (.k x3_0))]) fun x4_1 h => wV fs out (b + 2) noT h (.box 67 2 (.k x4_1)) fun x5_2 h => wV fs out (b + 3) noT h (.mov (.k x5_2)) fun x2_3 h => R ⟨(upd (upd (upd (upd t 3 x3_0) 4 x4_1) 5 x5_2) 2 x2_3), h⟩) := by kernel_rfl
def c26_3 : ACode := .region (o26_3.map (·.2)) [0, 1, 2, 3] []
theorem s26_3 (h : wS fs out s.h.nx o26_3 s.t ⟨s.h.o, s.h.nx + 4⟩ (Q .normal)) : wC fs out c26_3 s Q := wC_region rfl rfl h
def c26_2 : ACode := .seq c26_3 .ret
theorem s26_2 (h : wS fs out s.h.nx o26_3 s.t ⟨s.h.o, s.h.nx + 4⟩ fun s1 => wC fs out .ret s1 Q) : wC fs out c26_2 s Q := wC_seq (s26_3 h)
def c26_0 : ACode := .seq c26_1 c26_2
theorem s26_0 (h : wS fs out s.h.nx o26_1 s.t ⟨s.h.o, s.h.nx + 1⟩ fun s1 => wC fs out c26_2 s1 Q) : wC fs out c26_0 s Q := wC_seq (s26_1 h)
def a26 : AFunc := ⟨1, [2], none, c26_0⟩
theorem t26 : tell Try.prog Try.f26 [] = some a26 := by kernel_rfl
theorem ok26 : FuncOk Try.prog 26 a26 := tell_ok Try.func26 t26

/-- (*railplan/railplankeep.Source).Next -/
def o27_1 : List (Nat × AOper) := (0, ⟨some 4, .mov (.k (.v (.one (.int .i64 0)))), none⟩) ::
   []
theorem h27_1 : wS fs out b o27_1 t h R = (wV fs out (b + 0) noT h (.mov (.k (.v (.one (.int .i64 0))))) fun x4_0 h => R ⟨(upd t 4 x4_0), h⟩) := by kernel_rfl
def c27_1 : ACode := .region (o27_1.map (·.2)) [0] []
theorem s27_1 (h : wS fs out s.h.nx o27_1 s.t ⟨s.h.o, s.h.nx + 1⟩ (Q .normal)) : wC fs out c27_1 s Q := wC_region rfl rfl h
def o27_4 : List (Nat × AOper) := (0, ⟨some 5, .mov (.t 0), none⟩) ::
   (1, ⟨some 6, .nilchk (.t 5), none⟩) ::
   (2, ⟨some 7, .fadr 1 (.t 6), none⟩) ::
   (3, ⟨some 8, .load none (.t 7), none⟩) ::
   (4, ⟨some 9, .mov (.t 0), none⟩) ::
   (5, ⟨some 10, .nilchk (.t 9), none⟩) ::
   (6, ⟨some 11, .fadr 0 (.t 10), none⟩) ::
   (7, ⟨some 12, .load none (.t 11), none⟩) ::
   (8, ⟨some 13, .len (.t 12), none⟩) ::
   (9, ⟨some 14, .bin .geq (.t 8) (.t 13), none⟩) ::
   []
theorem h27_4 : wS fs out b o27_4 t h R = (wV fs out (b + 0) noT h (.mov (.k (t 0))) fun x5_0 h => wV fs out (b + 1) noT h (.nilchk (.k x5_0)) fun x6_1 h => wV fs out (b + 2) noT h (.fadr 1 (.k x6_1)) fun x7_2 h => wV fs out (b + 3) noT h (.load none (.k x7_2)) fun x8_3 h => wV fs out (b + 4) noT h (.mov (.k (t 0))) fun x9_4 h => wV fs out (b + 5) noT h (.nilchk (.k x9_4)) fun x10_5 h => wV fs out (b + 6) noT h (.fadr 0 (.k x10_5)) fun x11_6 h => wV fs out (b + 7) noT h (.load none (.k x11_6)) fun x12_7 h => wV fs out (b + 8) noT h (.len (.k x12_7)) fun x13_8 h => wV fs out (b + 9) noT h (.bin .geq (.k x8_3) (.k x13_8)) fun x14_9 h => R ⟨(upd (upd (upd (upd (upd (upd (upd (upd (upd (upd t 5 x5_0) 6 x6_1) 7 x7_2) 8 x8_3) 9 x9_4) 10 x10_5) 11 x11_6) 12 x12_7) 13 x13_8) 14 x14_9), h⟩) := by kernel_rfl
def c27_4 : ACode := .region (o27_4.map (·.2)) [0, 1, 2, 3, 4, 5, 6, 7, 8, 9] []
theorem s27_4 (h : wS fs out s.h.nx o27_4 s.t ⟨s.h.o, s.h.nx + 10⟩ (Q .normal)) : wC fs out c27_4 s Q := wC_region rfl rfl h
def o27_7 : List (Nat × AOper) := (0, ⟨some 4, .mov (.k (.v (.one (.int .i64 0)))), none⟩) ::
   []
theorem h27_7 : wS fs out b o27_7 t h R = (wV fs out (b + 0) noT h (.mov (.k (.v (.one (.int .i64 0))))) fun x4_0 h => R ⟨(upd t 4 x4_0), h⟩) := by kernel_rfl
def c27_7 : ACode := .region (o27_7.map (·.2)) [0] []
theorem s27_7 (h : wS fs out s.h.nx o27_7 s.t ⟨s.h.o, s.h.nx + 1⟩ (Q .normal)) : wC fs out c27_7 s Q := wC_region rfl rfl h
def c27_6 : ACode := .seq c27_7 .ret
theorem s27_6 (h : wS fs out s.h.nx o27_7 s.t ⟨s.h.o, s.h.nx + 1⟩ fun s1 => wC fs out .ret s1 Q) : wC fs out c27_6 s Q := wC_seq (s27_7 h)
def c27_5 : ACode := .cond (.t 14) c27_6 .skip [0, 1, 4]
theorem s27_5 (h : onC (s.t 14) (wC fs out c27_6 s fun e s1 => Q e (keepOnly [0, 1, 4] s1)) (Q .normal (keepOnly [0, 1, 4] s))) : wC fs out c27_5 s Q := wC_condC (by first | exact h | (simp only [wC_skip, wC_exit, wC_ret]; exact h))
def c27_3 : ACode := .seq c27_4 c27_5
theorem s27_3 (h : wS fs out s.h.nx o27_4 s.t ⟨s.h.o, s.h.nx + 10⟩ fun s1 => wC fs out c27_5 s1 Q) : wC fs out c27_3 s Q := wC_seq (s27_4 h)
def o27_9 : List (Nat × AOper) := (0, ⟨some 15, .mov (.t 0), none⟩) ::
   (1, ⟨some 16, .nilchk (.t 15), none⟩) ::
   (2, ⟨some 17, .fadr 1 (.t 16), none⟩) ::
   (3, ⟨some 18, .load none (.t 17), none⟩) ::
   (4, ⟨some 19, .bin .add (.t 18) (.k (.v (.one (.int .i64 1)))), none⟩) ::
   (5, ⟨some 20, .nilchk (.t 15), none⟩) ::
   (6, ⟨some 21, .fadr 1 (.t 20), none⟩) ::
   (7, ⟨none, .store 1 (.t 21) (.t 19), none⟩) ::
   []
theorem h27_9 : wS fs out b o27_9 t h R = (wV fs out (b + 0) noT h (.mov (.k (t 0))) fun x15_0 h => wV fs out (b + 1) noT h (.nilchk (.k x15_0)) fun x16_1 h => wV fs out (b + 2) noT h (.fadr 1 (.k x16_1)) fun x17_2 h => wV fs out (b + 3) noT h (.load none (.k x17_2)) fun x18_3 h => wV fs out (b + 4) noT h (.bin .add (.k x18_3) (.k (.v (.one (.int .i64 1))))) fun x19_4 h => wV fs out (b + 5) noT h (.nilchk (.k x15_0)) fun x20_5 h => wV fs out (b + 6) noT h (.fadr 1 (.k x20_5)) fun x21_6 h => wV fs out (b + 7) noT h (.store 1 (.k x21_6) (.k x19_4)) fun _ h => R ⟨(upd (upd (upd (upd (upd (upd (upd t 15 x15_0) 16 x16_1) 17 x17_2) 18 x18_3) 19 x19_4) 20 x20_5) 21 x21_6), h⟩) := by kernel_rfl
def c27_9 : ACode := .region (o27_9.map (·.2)) [0, 1, 2, 3, 4, 5, 6, 7] []
theorem s27_9 (h : wS fs out s.h.nx o27_9 s.t ⟨s.h.o, s.h.nx + 8⟩ (Q .normal)) : wC fs out c27_9 s Q := wC_region rfl rfl h
def o27_11_2 : List (Nat × AOper) := (13, ⟨some 4, .mov (.t 34), none⟩) ::
   []
theorem h27_11_2 : wS fs out b o27_11_2 t h R = (wV fs out (b + 13) noT h (.mov (.k (t 34))) fun x4_0 h => R ⟨(upd t 4 x4_0), h⟩) := by kernel_rfl
def o27_11_1 : List (Nat × AOper) := (10, ⟨some 32, .load none (.t 31), none⟩) ::
   (11, ⟨some 33, .mov (.t 1), none⟩) ::
   (12, ⟨some 34, .call 15 [(.t 32), (.t 33)], none⟩) ::
   o27_11_2
theorem h27_11_1 : wS fs out b o27_11_1 t h R = (wV fs out (b + 10) noT h (.load none (.k (t 31))) fun x32_0 h => wV fs out (b + 11) noT h (.mov (.k (t 1))) fun x33_1 h => wV fs out (b + 12) noT h (.call 15 [(.k x32_0), (.k x33_1)]) fun x34_2 h => wS fs out b o27_11_2 (upd (upd (upd t 32 x32_0) 33 x33_1) 34 x34_2) h R) := by kernel_rfl
def o27_11 : List (Nat × AOper) := (0, ⟨some 22, .mov (.t 0), none⟩) ::
   (1, ⟨some 23, .nilchk (.t 22), none⟩) ::
   (2, ⟨some 24, .fadr 0 (.t 23), none⟩) ::
   (3, ⟨some 25, .load none (.t 24), none⟩) ::
   (4, ⟨some 26, .mov (.t 0), none⟩) ::
   (5, ⟨some 27, .nilchk (.t 26), none⟩) ::
   (6, ⟨some 28, .fadr 1 (.t 27), none⟩) ::
   (7, ⟨some 29, .load none (.t 28), none⟩) ::
   (8, ⟨some 30, .bin .sub (.t 29) (.k (.v (.one (.int .i64 1)))), none⟩) ::
   (9, ⟨some 31, .iadr 1 (.t 25) (.t 30), none⟩) ::
   o27_11_1
theorem h27_11 : wS fs out b o27_11 t h R = (wV fs out (b + 0) noT h (.mov (.k (t 0))) fun x22_0 h => wV fs out (b + 1) noT h (.nilchk (.k x22_0)) fun x23_1 h => wV fs out (b + 2) noT h (.fadr 0 (.k x23_1)) fun x24_2 h => wV fs out (b + 3) noT h (.load none (.k x24_2)) fun x25_3 h => wV fs out (b + 4) noT h (.mov (.k (t 0))) fun x26_4 h => wV fs out (b + 5) noT h (.nilchk (.k x26_4)) fun x27_5 h => wV fs out (b + 6) noT h (.fadr 1 (.k x27_5)) fun x28_6 h => wV fs out (b + 7) noT h (.load none (.k x28_6)) fun x29_7 h => wV fs out (b + 8) noT h (.bin .sub (.k x29_7) (.k (.v (.one (.int .i64 1))))) fun x30_8 h => wV fs out (b + 9) noT h (.iadr 1 (.k x25_3) (.k x30_8)) fun x31_9 h => wS fs out b o27_11_1 (upd (upd (upd (upd (upd (upd (upd (upd (upd (upd t 22 x22_0) 23 x23_1) 24 x24_2) 25 x25_3) 26 x26_4) 27 x27_5) 28 x28_6) 29 x29_7) 30 x30_8) 31 x31_9) h R) := by kernel_rfl
def c27_11 : ACode := .region (o27_11.map (·.2)) [0, 1, 2, 3, 4, 5, 6, 7, 8, 9, 10, 11, 12, 13] []
theorem s27_11 (h : wS fs out s.h.nx o27_11 s.t ⟨s.h.o, s.h.nx + 14⟩ (Q .normal)) : wC fs out c27_11 s Q := wC_region rfl rfl h
def c27_10 : ACode := .seq c27_11 .ret
theorem s27_10 (h : wS fs out s.h.nx o27_11 s.t ⟨s.h.o, s.h.nx + 14⟩ fun s1 => wC fs out .ret s1 Q) : wC fs out c27_10 s Q := wC_seq (s27_11 h)
def c27_8 : ACode := .seq c27_9 c27_10
theorem s27_8 (h : wS fs out s.h.nx o27_9 s.t ⟨s.h.o, s.h.nx + 8⟩ fun s1 => wC fs out c27_10 s1 Q) : wC fs out c27_8 s Q := wC_seq (s27_9 h)
def c27_2 : ACode := .seq c27_3 c27_8
theorem s27_2 (h : wC fs out c27_3 s fun e s1 => match e with | .normal => wC fs out c27_8 s1 Q | e => Q e s1) : wC fs out c27_2 s Q := wC_seq h
def c27_0 : ACode := .seq c27_1 c27_2
theorem s27_0 (h : wS fs out s.h.nx o27_1 s.t ⟨s.h.o, s.h.nx + 1⟩ fun s1 => wC fs out c27_2 s1 Q) : wC fs out c27_0 s Q := wC_seq (s27_1 h)
def a27 : AFunc := ⟨2, [4], none, c27_0⟩
theorem t27 : tell Try.prog Try.f27 [([0, 1, 2, 3, 4, 5, 6, 7, 8, 9], [], [0, 1, 3, 7, 0, 16, 48, 112, 240, 511]), ([0, 1, 4], [], []), ([0, 1, 2, 3, 4, 5, 6, 7, 8, 9, 10, 11, 12, 13], [], [0, 1, 3, 7, 0, 16, 48, 112, 240, 511, 1023, 0, 4095, 8191])] = some a27 := by kernel_rfl
theorem ok27 : FuncOk Try.prog 27 a27 := tell_ok Try.func27 t27

/-- railplan/delay.propagate -/
def o28_1 : List (Nat × AOper) := (0, ⟨some 6, .new 58 [.nils, .nils, .nils], none⟩) ::
   []
theorem h28_1 : wS fs out b o28_1 t h R = (wV fs out (b + 0) noT h (.new 58 [.nils, .nils, .nils]) fun x6_0 h => R ⟨(upd t 6 x6_0), h⟩) := by kernel_rfl
def c28_1 : ACode := .region (o28_1.map (·.2)) [0] []
theorem s28_1 (h : wS fs out s.h.nx o28_1 s.t ⟨s.h.o, s.h.nx + 1⟩ (Q .normal)) : wC fs out c28_1 s Q := wC_region rfl rfl h
def o28_3_1 : List (Nat × AOper) := (10, ⟨some 7, .new 58 [.nils, .nils, .nils], none⟩) ::
   (11, ⟨none, .store 3 (.t 7) (.t 28), none⟩) ::
   []
theorem h28_3_1 : wS fs out b o28_3_1 t h R = (wV fs out (b + 10) noT h (.new 58 [.nils, .nils, .nils]) fun x7_0 h => wV fs out (b + 11) noT h (.store 3 (.k x7_0) (.k (t 28))) fun _ h => R ⟨(upd t 7 x7_0), h⟩) := by kernel_rfl
def o28_3 : List (Nat × AOper) := (0, ⟨some 19, .mov (.t 0), none⟩) ::
   (1, ⟨some 20, .len (.t 19), none⟩) ::
   (3, ⟨some 22, .mov (.t 0), none⟩) ::
   (4, ⟨some 23, .len (.t 22), none⟩) ::
   (6, ⟨some 25, .mov (.t 1), none⟩) ::
   (7, ⟨some 26, .len (.t 25), none⟩) ::
   (2, ⟨some 21, .mks 3 1 8 [(.int .i64 0)] (.t 20) (.t 20), none⟩) ::
   (5, ⟨some 24, .mks 3 1 8 [(.int .i64 0)] (.t 23) (.t 23), none⟩) ::
   (8, ⟨some 27, .mks 4 1 1 [(.bool false)] (.t 26) (.t 26), none⟩) ::
   (9, ⟨some 28, .build [.nils, .nils, .nils] [(0, 1, (.t 21)), (1, 1, (.t 24)), (2, 1, (.t 27))], none⟩) ::
   o28_3_1
theorem h28_3 : wS fs out b o28_3 t h R = (wV fs out (b + 0) noT h (.mov (.k (t 0))) fun x19_0 h => wV fs out (b + 1) noT h (.len (.k x19_0)) fun x20_1 h => wV fs out (b + 3) noT h (.mov (.k (t 0))) fun x22_2 h => wV fs out (b + 4) noT h (.len (.k x22_2)) fun x23_3 h => wV fs out (b + 6) noT h (.mov (.k (t 1))) fun x25_4 h => wV fs out (b + 7) noT h (.len (.k x25_4)) fun x26_5 h => wV fs out (b + 2) noT h (.mks 3 1 8 [(.int .i64 0)] (.k x20_1) (.k x20_1)) fun x21_6 h => wV fs out (b + 5) noT h (.mks 3 1 8 [(.int .i64 0)] (.k x23_3) (.k x23_3)) fun x24_7 h => wV fs out (b + 8) noT h (.mks 4 1 1 [(.bool false)] (.k x26_5) (.k x26_5)) fun x27_8 h => wV fs out (b + 9) noT h (.build [.nils, .nils, .nils] [(0, 1, (.k x21_6)), (1, 1, (.k x24_7)), (2, 1, (.k x27_8))]) fun x28_9 h => wS fs out b o28_3_1 (upd (upd (upd (upd (upd (upd (upd (upd (upd (upd t 19 x19_0) 20 x20_1) 22 x22_2) 23 x23_3) 25 x25_4) 26 x26_5) 21 x21_6) 24 x24_7) 27 x27_8) 28 x28_9) h R) := by kernel_rfl
def c28_3 : ACode := .region [⟨some 19, .mov (.t 0), none⟩,
   ⟨some 20, .len (.t 19), none⟩,
   ⟨some 21, .mks 3 1 8 [(.int .i64 0)] (.t 20) (.t 20), none⟩,
   ⟨some 22, .mov (.t 0), none⟩,
   ⟨some 23, .len (.t 22), none⟩,
   ⟨some 24, .mks 3 1 8 [(.int .i64 0)] (.t 23) (.t 23), none⟩,
   ⟨some 25, .mov (.t 1), none⟩,
   ⟨some 26, .len (.t 25), none⟩,
   ⟨some 27, .mks 4 1 1 [(.bool false)] (.t 26) (.t 26), none⟩,
   ⟨some 28, .build [.nils, .nils, .nils] [(0, 1, (.t 21)), (1, 1, (.t 24)), (2, 1, (.t 27))], none⟩,
   ⟨some 7, .new 58 [.nils, .nils, .nils], none⟩,
   ⟨none, .store 3 (.t 7) (.t 28), none⟩] [0, 1, 3, 4, 6, 7, 2, 5, 8, 9, 10, 11] []
theorem s28_3 (h : wS fs out s.h.nx o28_3 s.t ⟨s.h.o, s.h.nx + 12⟩ (Q .normal)) : wC fs out c28_3 s Q := wC_region rfl rfl h
def o28_5_1 : List (Nat × AOper) := (4, ⟨some 29, .mov (.t 33), none⟩) ::
   (5, ⟨some 34, .ext 0 (.t 29), none⟩) ::
   (6, ⟨some 35, .ext 1 (.t 29), none⟩) ::
   (7, ⟨some 8, .mov (.t 34), none⟩) ::
   (8, ⟨some 9, .mov (.t 35), none⟩) ::
   []
theorem h28_5_1 : wS fs out b o28_5_1 t h R = (wV fs out (b + 4) noT h (.mov (.k (t 33))) fun x29_0 h => wV fs out (b + 5) noT h (.ext 0 (.k x29_0)) fun x34_1 h => wV fs out (b + 6) noT h (.ext 1 (.k x29_0)) fun x35_2 h => wV fs out (b + 7) noT h (.mov (.k x34_1)) fun x8_3 h => wV fs out (b + 8) noT h (.mov (.k x35_2)) fun x9_4 h => R ⟨(upd (upd (upd (upd (upd t 29 x29_0) 34 x34_1) 35 x35_2) 8 x8_3) 9 x9_4), h⟩) := by kernel_rfl
def o28_5 : List (Nat × AOper) := (0, ⟨some 30, .mov (.t 0), none⟩) ::
   (1, ⟨some 31, .len (.t 30), none⟩) ::
   (2, ⟨some 32, .mov (.t 1), none⟩) ::
   (3, ⟨some 33, .call 32 [(.t 31), (.t 32)], none⟩) ::
   o28_5_1
theorem h28_5 : wS fs out b o28_5 t h R = (wV fs out (b + 0) noT h (.mov (.k (t 0))) fun x30_0 h => wV fs out (b + 1) noT h (.len (.k x30_0)) fun x31_1 h => wV fs out (b + 2) noT h (.mov (.k (t 1))) fun x32_2 h => wV fs out (b + 3) noT h (.call 32 [(.k x31_1), (.k x32_2)]) fun x33_3 h => wS fs out b o28_5_1 (upd (upd (upd (upd t 30 x30_0) 31 x31_1) 32 x32_2) 33 x33_3) h R) := by kernel_rfl
def c28_5 : ACode := .region (o28_5.map (·.2)) [0, 1, 2, 3, 4, 5, 6, 7, 8] []
theorem s28_5 (h : wS fs out s.h.nx o28_5 s.t ⟨s.h.o, s.h.nx + 9⟩ (Q .normal)) : wC fs out c28_5 s Q := wC_region rfl rfl h
def o28_8 : List (Nat × AOper) := (0, ⟨some 36, .mov (.t 8), none⟩) ::
   (1, ⟨some 37, .len (.t 36), none⟩) ::
   (2, ⟨some 38, .mov (.k (.v (.one (.int .i64 0)))), none⟩) ::
   []
theorem h28_8 : wS fs out b o28_8 t h R = (wV fs out (b + 0) noT h (.mov (.k (t 8))) fun x36_0 h => wV fs out (b + 1) noT h (.len (.k x36_0)) fun x37_1 h => wV fs out (b + 2) noT h (.mov (.k (.v (.one (.int .i64 0))))) fun x38_2 h => R ⟨(upd (upd (upd t 36 x36_0) 37 x37_1) 38 x38_2), h⟩) := by kernel_rfl
def c28_8 : ACode := .region (o28_8.map (·.2)) [0, 1, 2] []
theorem s28_8 (h : wS fs out s.h.nx o28_8 s.t ⟨s.h.o, s.h.nx + 3⟩ (Q .normal)) : wC fs out c28_8 s Q := wC_region rfl rfl h
def o28_12 : List (Nat × AOper) := (0, ⟨some 39, .bin .lss (.t 38) (.t 37), none⟩) ::
   []
theorem h28_12 : wS fs out b o28_12 t h R = (wV fs out (b + 0) noT h (.bin .lss (.k (t 38)) (.k (t 37))) fun x39_0 h => R ⟨(upd t 39 x39_0), h⟩) := by kernel_rfl
def c28_12 : ACode := .region (o28_12.map (·.2)) [0] []
theorem s28_12 (h : wS fs out s.h.nx o28_12 s.t ⟨s.h.o, s.h.nx + 1⟩ (Q .normal)) : wC fs out c28_12 s Q := wC_region rfl rfl h
def c28_14 : ACode := .cond (.t 39) .skip (.exit 0) [0, 1, 2, 6, 7, 36, 37, 38]
theorem s28_14 (h : onC (s.t 39) (Q .normal (keepOnly [0, 1, 2, 6, 7, 36, 37, 38] s)) (Q (.exit 0) (keepOnly [0, 1, 2, 6, 7, 36, 37, 38] s))) : wC fs out c28_14 s Q := wC_condC (by first | exact h | (simp only [wC_skip, wC_exit, wC_ret]; exact h))
def o28_18 : List (Nat × AOper) := (0, ⟨some 40, .iadr 1 (.t 36) (.t 38), none⟩) ::
   (1, ⟨some 41, .load none (.t 40), none⟩) ::
   (2, ⟨some 11, .mov (.t 41), none⟩) ::
   []
theorem h28_18 : wS fs out b o28_18 t h R = (wV fs out (b + 0) noT h (.iadr 1 (.k (t 36)) (.k (t 38))) fun x40_0 h => wV fs out (b + 1) noT h (.load none (.k x40_0)) fun x41_1 h => wV fs out (b + 2) noT h (.mov (.k x41_1)) fun x11_2 h => R ⟨(upd (upd (upd t 40 x40_0) 41 x41_1) 11 x11_2), h⟩) := by kernel_rfl
def c28_18 : ACode := .region (o28_18.map (·.2)) [0, 1, 2] []
theorem s28_18 (h : wS fs out s.h.nx o28_18 s.t ⟨s.h.o, s.h.nx + 3⟩ (Q .normal)) : wC fs out c28_18 s Q := wC_region rfl rfl h
def o28_20_1 : List (Nat × AOper) := (10, ⟨some 12, .mov (.t 46), none⟩) ::
   (11, ⟨some 13, .mov (.t 51), none⟩) ::
   []
theorem h28_20_1 : wS fs out b o28_20_1 t h R = (wV fs out (b + 10) noT h (.mov (.k (t 46))) fun x12_0 h => wV fs out (b + 11) noT h (.mov (.k (t 51))) fun x13_1 h => R ⟨(upd (upd t 12 x12_0) 13 x13_1), h⟩) := by kernel_rfl
def o28_20 : List (Nat × AOper) := (0, ⟨some 42, .mov (.t 0), none⟩) ::
   (1, ⟨some 43, .mov (.t 11), none⟩) ::
   (2, ⟨some 44, .iadr 2 (.t 42) (.t 43), none⟩) ::
   (3, ⟨some 45, .fadr 0 (.t 44), none⟩) ::
   (4, ⟨some 46, .load none (.t 45), none⟩) ::
   (5, ⟨some 47, .mov (.t 0), none⟩) ::
   (6, ⟨some 48, .mov (.t 11), none⟩) ::
   (7, ⟨some 49, .iadr 2 (.t 47) (.t 48), none⟩) ::
   (8, ⟨some 50, .fadr 1 (.t 49), none⟩) ::
   (9, ⟨some 51, .load none (.t 50), none⟩) ::
   o28_20_1
theorem h28_20 : wS fs out b o28_20 t h R = (wV fs out (b + 0) noT h (.mov (.k (t 0))) fun x42_0 h => wV fs out (b + 1) noT h (.mov (.k (t 11))) fun x43_1 h => wV fs out (b + 2) noT h (.iadr 2 (.k x42_0) (.k x43_1)) fun x44_2 h => wV fs out (b + 3) noT h (.fadr 0 (.k x44_2)) fun x45_3 h => wV fs out (b + 4) noT h (.load none (.k x45_3)) fun x46_4 h => wV fs out (b + 5) noT h (.mov (.k (t 0))) fun x47_5 h => wV fs out (b + 6) noT h (.mov (.k (t 11))) fun x48_6 h => wV fs out (b + 7) noT h (.iadr 2 (.k x47_5) (.k x48_6)) fun x49_7 h => wV fs out (b + 8) noT h (.fadr 1 (.k x49_7)) fun x50_8 h => wV fs out (b + 9) noT h (.load none (.k x50_8)) fun x51_9 h => wS fs out b o28_20_1 (upd (upd (upd (upd (upd (upd (upd (upd (upd (upd t 42 x42_0) 43 x43_1) 44 x44_2) 45 x45_3) 46 x46_4) 47 x47_5) 48 x48_6) 49 x49_7) 50 x50_8) 51 x51_9) h R) := by kernel_rfl
def c28_20 : ACode := .region (o28_20.map (·.2)) [0, 1, 2, 3, 4, 5, 6, 7, 8, 9, 10, 11] []
theorem s28_20 (h : wS fs out s.h.nx o28_20 s.t ⟨s.h.o, s.h.nx + 12⟩ (Q .normal)) : wC fs out c28_20 s Q := wC_region rfl rfl h
def o28_23 : List (Nat × AOper) := (0, ⟨some 52, .mov (.t 1), none⟩) ::
   (1, ⟨some 53, .len (.t 52), none⟩) ::
   (2, ⟨some 54, .mov (.k (.v (.one (.int .i64 0)))), none⟩) ::
   []
theorem h28_23 : wS fs out b o28_23 t h R = (wV fs out (b + 0) noT h (.mov (.k (t 1))) fun x52_0 h => wV fs out (b + 1) noT h (.len (.k x52_0)) fun x53_1 h => wV fs out (b + 2) noT h (.mov (.k (.v (.one (.int .i64 0))))) fun x54_2 h => R ⟨(upd (upd (upd t 52 x52_0) 53 x53_1) 54 x54_2), h⟩) := by kernel_rfl
def c28_23 : ACode := .region (o28_23.map (·.2)) [0, 1, 2] []
theorem s28_23 (h : wS fs out s.h.nx o28_23 s.t ⟨s.h.o, s.h.nx + 3⟩ (Q .normal)) : wC fs out c28_23 s Q := wC_region rfl rfl h
def o28_27 : List (Nat × AOper) := (0, ⟨some 55, .bin .lss (.t 54) (.t 53), none⟩) ::
   []
theorem h28_27 : wS fs out b o28_27 t h R = (wV fs out (b + 0) noT h (.bin .lss (.k (t 54)) (.k (t 53))) fun x55_0 h => R ⟨(upd t 55 x55_0), h⟩) := by kernel_rfl
def c28_27 : ACode := .region (o28_27.map (·.2)) [0] []
theorem s28_27 (h : wS fs out s.h.nx o28_27 s.t ⟨s.h.o, s.h.nx + 1⟩ (Q .normal)) : wC fs out c28_27 s Q := wC_region rfl rfl h
def c28_29 : ACode := .cond (.t 55) .skip (.exit 2) [0, 1, 2, 6, 7, 11, 12, 13, 36, 37, 38, 52, 53, 54]
theorem s28_29 (h : onC (s.t 55) (Q .normal (keepOnly [0, 1, 2, 6, 7, 11, 12, 13, 36, 37, 38, 52, 53, 54] s)) (Q (.exit 2) (keepOnly [0, 1, 2, 6, 7, 11, 12, 13, 36, 37, 38, 52, 53, 54] s))) : wC fs out c28_29 s Q := wC_condC (by first | exact h | (simp only [wC_skip, wC_exit, wC_ret]; exact h))
def o28_33 : List (Nat × AOper) := (0, ⟨some 56, .mov (.t 54), none⟩) ::
   (1, ⟨some 57, .iadr 4 (.t 52) (.t 54), none⟩) ::
   (2, ⟨some 58, .load (some 4) (.t 57), none⟩) ::
   (3, ⟨some 15, .new 35 [(.int .i64 0), (.int .i64 0), (.int .i64 0), (.int .i64 0)], none⟩) ::
   (4, ⟨some 14, .mov (.t 56), none⟩) ::
   (5, ⟨none, .store 4 (.t 15) (.t 58), none⟩) ::
   []
theorem h28_33 : wS fs out b o28_33 t h R = (wV fs out (b + 0) noT h (.mov (.k (t 54))) fun x56_0 h => wV fs out (b + 1) noT h (.iadr 4 (.k (t 52)) (.k (t 54))) fun x57_1 h => wV fs out (b + 2) noT h (.load (some 4) (.k x57_1)) fun x58_2 h => wV fs out (b + 3) noT h (.new 35 [(.int .i64 0), (.int .i64 0), (.int .i64 0), (.int .i64 0)]) fun x15_3 h => wV fs out (b + 4) noT h (.mov (.k x56_0)) fun x14_4 h => wV fs out (b + 5) noT h (.store 4 (.k x15_3) (.k x58_2)) fun _ h => R ⟨(upd (upd (upd (upd (upd t 56 x56_0) 57 x57_1) 58 x58_2) 15 x15_3) 14 x14_4), h⟩) := by kernel_rfl
def c28_33 : ACode := .region (o28_33.map (·.2)) [0, 1, 2, 3, 4, 5] []
theorem s28_33 (h : wS fs out s.h.nx o28_33 s.t ⟨s.h.o, s.h.nx + 6⟩ (Q .normal)) : wC fs out c28_33 s Q := wC_region rfl rfl h
def o28_36 : List (Nat × AOper) := (0, ⟨some 59, .fadr 1 (.t 15), none⟩) ::
   (1, ⟨some 60, .load none (.t 59), none⟩) ::
   (2, ⟨some 61, .mov (.t 11), none⟩) ::
   (3, ⟨some 62, .bin .neq (.t 60) (.t 61), none⟩) ::
   []
theorem h28_36 : wS fs out b o28_36 t h R = (wV fs out (b + 0) noT h (.fadr 1 (.k (t 15))) fun x59_0 h => wV fs out (b + 1) noT h (.load none (.k x59_0)) fun x60_1 h => wV fs out (b + 2) noT h (.mov (.k (t 11))) fun x61_2 h => wV fs out (b + 3) noT h (.bin .neq (.k x60_1) (.k x61_2)) fun x62_3 h => R ⟨(upd (upd (upd (upd t 59 x59_0) 60 x60_1) 61 x61_2) 62 x62_3), h⟩) := by kernel_rfl
def c28_36 : ACode := .region (o28_36.map (·.2)) [0, 1, 2, 3] []
theorem s28_36 (h : wS fs out s.h.nx o28_36 s.t ⟨s.h.o, s.h.nx + 4⟩ (Q .normal)) : wC fs out c28_36 s Q := wC_region rfl rfl h
def c28_37 : ACode := .cond (.t 62) (.exit 3) .skip [0, 1, 2, 6, 7, 11, 12, 13, 14, 15, 36, 37, 38, 52, 53, 54]
theorem s28_37 (h : onC (s.t 62) (Q (.exit 3) (keepOnly [0, 1, 2, 6, 7, 11, 12, 13, 14, 15, 36, 37, 38, 52, 53, 54] s)) (Q .normal (keepOnly [0, 1, 2, 6, 7, 11, 12, 13, 14, 15, 36, 37, 38, 52, 53, 54] s))) : wC fs out c28_37 s Q := wC_condC (by first | exact h | (simp only [wC_skip, wC_exit, wC_ret]; exact h))
def c28_35 : ACode := .seq c28_36 c28_37
theorem s28_35 (h : wS fs out s.h.nx o28_36 s.t ⟨s.h.o, s.h.nx + 4⟩ fun s1 => wC fs out c28_37 s1 Q) : wC fs out c28_35 s Q := wC_seq (s28_36 h)
def o28_39 : List (Nat × AOper) := (0, ⟨some 63, .fadr 1 (.t 7), none⟩) ::
   (1, ⟨some 64, .load none (.t 63), none⟩) ::
   (2, ⟨some 65, .fadr 0 (.t 15), none⟩) ::
   (3, ⟨some 66, .load none (.t 65), none⟩) ::
   (4, ⟨some 67, .iadr 1 (.t 64) (.t 66), none⟩) ::
   (5, ⟨some 68, .load none (.t 67), none⟩) ::
   (6, ⟨some 69, .fadr 2 (.t 15), none⟩) ::
   (7, ⟨some 70, .load none (.t 69), none⟩) ::
   (8, ⟨some 71, .bin .add (.t 68) (.t 70), none⟩) ::
   (9, ⟨some 16, .mov (.t 71), none⟩) ::
   []
theorem h28_39 : wS fs out b o28_39 t h R = (wV fs out (b + 0) noT h (.fadr 1 (.k (t 7))) fun x63_0 h => wV fs out (b + 1) noT h (.load none (.k x63_0)) fun x64_1 h => wV fs out (b + 2) noT h (.fadr 0 (.k (t 15))) fun x65_2 h => wV fs out (b + 3) noT h (.load none (.k x65_2)) fun x66_3 h => wV fs out (b + 4) noT h (.iadr 1 (.k x64_1) (.k x66_3)) fun x67_4 h => wV fs out (b + 5) noT h (.load none (.k x67_4)) fun x68_5 h => wV fs out (b + 6) noT h (.fadr 2 (.k (t 15))) fun x69_6 h => wV fs out (b + 7) noT h (.load none (.k x69_6)) fun x70_7 h => wV fs out (b + 8) noT h (.bin .add (.k x68_5) (.k x70_7)) fun x71_8 h => wV fs out (b + 9) noT h (.mov (.k x71_8)) fun x16_9 h => R ⟨(upd (upd (upd (upd (upd (upd (upd (upd (upd (upd t 63 x63_0) 64 x64_1) 65 x65_2) 66 x66_3) 67 x67_4) 68 x68_5) 69 x69_6) 70 x70_7) 71 x71_8) 16 x16_9), h⟩) := by kernel_rfl
def c28_39 : ACode := .region (o28_39.map (·.2)) [0, 1, 2, 3, 4, 5, 6, 7, 8, 9] []
theorem s28_39 (h : wS fs out s.h.nx o28_39 s.t ⟨s.h.o, s.h.nx + 10⟩ (Q .normal)) : wC fs out c28_39 s Q := wC_region rfl rfl h
def o28_42_2 : List (Nat × AOper) := (17, ⟨some 89, .pick (.t 78) (.k (.v (.one (.bool true)))) (.t 88), none⟩) ::
   (18, ⟨some 90, .iadr 1 (.t 73) (.t 74), none⟩) ::
   (19, ⟨none, .store 1 (.t 90) (.t 89), none⟩) ::
   []
theorem h28_42_2 : wS fs out b o28_42_2 t h R = (wV fs out (b + 17) noT h (.pick (.k (t 78)) (.k (.v (.one (.bool true)))) (.k (t 88))) fun x89_0 h => wV fs out (b + 18) noT h (.iadr 1 (.k (t 73)) (.k (t 74))) fun x90_1 h => wV fs out (b + 19) noT h (.store 1 (.k x90_1) (.k x89_0)) fun _ h => R ⟨(upd (upd t 89 x89_0) 90 x90_1), h⟩) := by kernel_rfl
def o28_42_1g : List (Nat × AOper) := (7, ⟨some 79, .mov (.t 16), none⟩) ::
   (8, ⟨some 80, .mov (.t 0), none⟩) ::
   (9, ⟨some 81, .mov (.t 11), none⟩) ::
   (10, ⟨some 82, .iadr 2 (.t 80) (.t 81), none⟩) ::
   (11, ⟨some 83, .fadr 0 (.t 82), none⟩) ::
   (12, ⟨some 84, .load none (.t 83), none⟩) ::
   (13, ⟨some 85, .fadr 3 (.t 15), none⟩) ::
   (14, ⟨some 86, .load none (.t 85), none⟩) ::
   (15, ⟨some 87, .bin .add (.t 84) (.t 86), none⟩) ::
   (16, ⟨some 88, .bin .leq (.t 79) (.t 87), none⟩) ::
   []
theorem h28_42_1g : wS fs out b o28_42_1g t h R = (wV fs out (b + 7) noT h (.mov (.k (t 16))) fun x79_0 h => wV fs out (b + 8) noT h (.mov (.k (t 0))) fun x80_1 h => wV fs out (b + 9) noT h (.mov (.k (t 11))) fun x81_2 h => wV fs out (b + 10) noT h (.iadr 2 (.k x80_1) (.k x81_2)) fun x82_3 h => wV fs out (b + 11) noT h (.fadr 0 (.k x82_3)) fun x83_4 h => wV fs out (b + 12) noT h (.load none (.k x83_4)) fun x84_5 h => wV fs out (b + 13) noT h (.fadr 3 (.k (t 15))) fun x85_6 h => wV fs out (b + 14) noT h (.load none (.k x85_6)) fun x86_7 h => wV fs out (b + 15) noT h (.bin .add (.k x84_5) (.k x86_7)) fun x87_8 h => wV fs out (b + 16) noT h (.bin .leq (.k x79_0) (.k x87_8)) fun x88_9 h => R ⟨(upd (upd (upd (upd (upd (upd (upd (upd (upd (upd t 79 x79_0) 80 x80_1) 81 x81_2) 82 x82_3) 83 x83_4) 84 x84_5) 85 x85_6) 86 x86_7) 87 x87_8) 88 x88_9), h⟩) := by kernel_rfl
def o28_42_1 : List (Nat × AOper) := grp 78 false o28_42_1g o28_42_2
theorem w28_42_1 : wS fs out b o28_42_1 t h R = onG (t 78) false (wS fs out b o28_42_1g (upd t 78 (.v (.one (.bool false)))) h fun s => wS fs out b o28_42_2 s.t s.h R) (wS fs out b o28_42_2 (upd (upd (upd (upd (upd (upd (upd (upd (upd (upd (upd t 78 (.v (.one (.bool true)))) 79 (.tup [])) 80 (.tup [])) 81 (.tup [])) 82 (.tup [])) 83 (.tup [])) 84 (.tup [])) 85 (.tup [])) 86 (.tup [])) 87 (.tup [])) 88 (.tup [])) h R) (wS fs out b o28_42_2 (upd (upd (upd (upd (upd (upd (upd (upd (upd (upd t 79 (.tup [])) 80 (.tup [])) 81 (.tup [])) 82 (.tup [])) 83 (.tup [])) 84 (.tup [])) 85 (.tup [])) 86 (.tup [])) 87 (.tup [])) 88 (.tup [])) h R) := wS_grpE rfl
def o28_42 : List (Nat × AOper) := (0, ⟨some 72, .fadr 2 (.t 7), none⟩) ::
   (1, ⟨some 73, .load none (.t 72), none⟩) ::
   (2, ⟨some 74, .mov (.t 14), none⟩) ::
   (3, ⟨some 75, .fadr 3 (.t 15), none⟩) ::
   (4, ⟨some 76, .load none (.t 75), none⟩) ::
   (5, ⟨some 77, .bin .eql (.t 76) (.k (.v (.one (.int .i64 (-1))))), none⟩) ::
   (6, ⟨some 78, .mov (.t 77), none⟩) ::
   o28_42_1
theorem h28_42 : wS fs out b o28_42 t h R = (wV fs out (b + 0) noT h (.fadr 2 (.k (t 7))) fun x72_0 h => wV fs out (b + 1) noT h (.load none (.k x72_0)) fun x73_1 h => wV fs out (b + 2) noT h (.mov (.k (t 14))) fun x74_2 h => wV fs out (b + 3) noT h (.fadr 3 (.k (t 15))) fun x75_3 h => wV fs out (b + 4) noT h (.load none (.k x75_3)) fun x76_4 h => wV fs out (b + 5) noT h (.bin .eql (.k x76_4) (.k (.v (.one (.int .i64 (-1)))))) fun x77_5 h => wV fs out (b + 6) noT h (.mov (.k x77_5)) fun x78_6 h => wS fs out b o28_42_1 (upd (upd (upd (upd (upd (upd (upd t 72 x72_0) 73 x73_1) 74 x74_2) 75 x75_3) 76 x76_4) 77 x77_5) 78 x78_6) h R) := by kernel_rfl
def c28_42 : ACode := .region (o28_42.map (·.2)) [0, 1, 2, 3, 4, 5, 6, 7, 8, 9, 10, 11, 12, 13, 14, 15, 16, 17, 18, 19] []
theorem s28_42 (h : wS fs out s.h.nx o28_42 s.t ⟨s.h.o, s.h.nx + 20⟩ (Q .normal)) : wC fs out c28_42 s Q := wC_region rfl rfl h
def o28_44 : List (Nat × AOper) := (0, ⟨some 91, .fadr 2 (.t 7), none⟩) ::
   (1, ⟨some 92, .load none (.t 91), none⟩) ::
   (2, ⟨some 93, .mov (.t 14), none⟩) ::
   (3, ⟨some 94, .iadr 1 (.t 92) (.t 93), none⟩) ::
   (4, ⟨some 95, .load none (.t 94), none⟩) ::
   (5, ⟨some 96, .not (.t 95), none⟩) ::
   []
theorem h28_44 : wS fs out b o28_44 t h R = (wV fs out (b + 0) noT h (.fadr 2 (.k (t 7))) fun x91_0 h => wV fs out (b + 1) noT h (.load none (.k x91_0)) fun x92_1 h => wV fs out (b + 2) noT h (.mov (.k (t 14))) fun x93_2 h => wV fs out (b + 3) noT h (.iadr 1 (.k x92_1) (.k x93_2)) fun x94_3 h => wV fs out (b + 4) noT h (.load none (.k x94_3)) fun x95_4 h => wV fs out (b + 5) noT h (.not (.k x95_4)) fun x96_5 h => R ⟨(upd (upd (upd (upd (upd (upd t 91 x91_0) 92 x92_1) 93 x93_2) 94 x94_3) 95 x95_4) 96 x96_5), h⟩) := by kernel_rfl
def c28_44 : ACode := .region (o28_44.map (·.2)) [0, 1, 2, 3, 4, 5] []
theorem s28_44 (h : wS fs out s.h.nx o28_44 s.t ⟨s.h.o, s.h.nx + 6⟩ (Q .normal)) : wC fs out c28_44 s Q := wC_region rfl rfl h
def c28_45 : ACode := .cond (.t 96) (.exit 3) .skip [0, 1, 2, 6, 7, 11, 12, 13, 16, 36, 37, 38, 52, 53, 54]
theorem s28_45 (h : onC (s.t 96) (Q (.exit 3) (keepOnly [0, 1, 2, 6, 7, 11, 12, 13, 16, 36, 37, 38, 52, 53, 54] s)) (Q .normal (keepOnly [0, 1, 2, 6, 7, 11, 12, 13, 16, 36, 37, 38, 52, 53, 54] s))) : wC fs out c28_45 s Q := wC_condC (by first | exact h | (simp only [wC_skip, wC_exit, wC_ret]; exact h))
def c28_43 : ACode := .seq c28_44 c28_45
theorem s28_43 (h : wS fs out s.h.nx o28_44 s.t ⟨s.h.o, s.h.nx + 6⟩ fun s1 => wC fs out c28_45 s1 Q) : wC fs out c28_43 s Q := wC_seq (s28_44 h)
def c28_41 : ACode := .seq c28_42 c28_43
theorem s28_41 (h : wS fs out s.h.nx o28_42 s.t ⟨s.h.o, s.h.nx + 20⟩ fun s1 => wC fs out c28_43 s1 Q) : wC fs out c28_41 s Q := wC_seq (s28_42 h)
def o28_47_2 : List (Nat × AOper) := (6, ⟨some 103, .pick (.t 99) (.k (.v (.one (.bool true)))) (.t 102), none⟩) ::
   []
theorem h28_47_2 : wS fs out b o28_47_2 t h R = (wV fs out (b + 6) noT h (.pick (.k (t 99)) (.k (.v (.one (.bool true)))) (.k (t 102))) fun x103_0 h => R ⟨(upd t 103 x103_0), h⟩) := by kernel_rfl
def o28_47_1g : List (Nat × AOper) := (3, ⟨some 100, .mov (.t 16), none⟩) ::
   (4, ⟨some 101, .mov (.t 12), none⟩) ::
   (5, ⟨some 102, .bin .gtr (.t 100) (.t 101), none⟩) ::
   []
theorem h28_47_1g : wS fs out b o28_47_1g t h R = (wV fs out (b + 3) noT h (.mov (.k (t 16))) fun x100_0 h => wV fs out (b + 4) noT h (.mov (.k (t 12))) fun x101_1 h => wV fs out (b + 5) noT h (.bin .gtr (.k x100_0) (.k x101_1)) fun x102_2 h => R ⟨(upd (upd (upd t 100 x100_0) 101 x101_1) 102 x102_2), h⟩) := by kernel_rfl
def o28_47_1 : List (Nat × AOper) := grp 99 false o28_47_1g o28_47_2
theorem w28_47_1 : wS fs out b o28_47_1 t h R = onG (t 99) false (wS fs out b o28_47_1g (upd t 99 (.v (.one (.bool false)))) h fun s => wS fs out b o28_47_2 s.t s.h R) (wS fs out b o28_47_2 (upd (upd (upd (upd t 99 (.v (.one (.bool true)))) 100 (.tup [])) 101 (.tup [])) 102 (.tup [])) h R) (wS fs out b o28_47_2 (upd (upd (upd t 100 (.tup [])) 101 (.tup [])) 102 (.tup [])) h R) := wS_grpE rfl
def o28_47 : List (Nat × AOper) := (0, ⟨some 97, .mov (.t 13), none⟩) ::
   (1, ⟨some 98, .not (.t 97), none⟩) ::
   (2, ⟨some 99, .mov (.t 98), none⟩) ::
   o28_47_1
theorem h28_47 : wS fs out b o28_47 t h R = (wV fs out (b + 0) noT h (.mov (.k (t 13))) fun x97_0 h => wV fs out (b + 1) noT h (.not (.k x97_0)) fun x98_1 h => wV fs out (b + 2) noT h (.mov (.k x98_1)) fun x99_2 h => wS fs out b o28_47_1 (upd (upd (upd t 97 x97_0) 98 x98_1) 99 x99_2) h R) := by kernel_rfl
def c28_47 : ACode := .region (o28_47.map (·.2)) [0, 1, 2, 3, 4, 5, 6] []
theorem s28_47 (h : wS fs out s.h.nx o28_47 s.t ⟨s.h.o, s.h.nx + 7⟩ (Q .normal)) : wC fs out c28_47 s Q := wC_region rfl rfl h
def o28_49 : List (Nat × AOper) := (0, ⟨some 104, .mov (.t 16), none⟩) ::
   (1, ⟨some 12, .mov (.t 104), none⟩) ::
   (2, ⟨some 13, .mov (.k (.v (.one (.bool true)))), none⟩) ::
   []
theorem h28_49 : wS fs out b o28_49 t h R = (wV fs out (b + 0) noT h (.mov (.k (t 16))) fun x104_0 h => wV fs out (b + 1) noT h (.mov (.k x104_0)) fun x12_1 h => wV fs out (b + 2) noT h (.mov (.k (.v (.one (.bool true))))) fun x13_2 h => R ⟨(upd (upd (upd t 104 x104_0) 12 x12_1) 13 x13_2), h⟩) := by kernel_rfl
def c28_49 : ACode := .region (o28_49.map (·.2)) [0, 1, 2] []
theorem s28_49 (h : wS fs out s.h.nx o28_49 s.t ⟨s.h.o, s.h.nx + 3⟩ (Q .normal)) : wC fs out c28_49 s Q := wC_region rfl rfl h
def c28_48 : ACode := .cond (.t 103) c28_49 .skip [0, 1, 2, 6, 7, 11, 12, 13, 36, 37, 38, 52, 53, 54]
theorem s28_48 (h : onC (s.t 103) (wC fs out c28_49 s fun e s1 => Q e (keepOnly [0, 1, 2, 6, 7, 11, 12, 13, 36, 37, 38, 52, 53, 54] s1)) (Q .normal (keepOnly [0, 1, 2, 6, 7, 11, 12, 13, 36, 37, 38, 52, 53, 54] s))) : wC fs out c28_48 s Q := wC_condC (by first | exact h | (simp only [wC_skip, wC_exit, wC_ret]; exact h))
def c28_46 : ACode := .seq c28_47 c28_48
theorem s28_46 (h : wS fs out s.h.nx o28_47 s.t ⟨s.h.o, s.h.nx + 7⟩ fun s1 => wC fs out c28_48 s1 Q) : wC fs out c28_46 s Q := wC_seq (s28_47 h)
def c28_40 : ACode := .seq c28_41 c28_46
theorem s28_40 (h : wC fs out c28_41 s fun e s1 => match e with | .normal => wC fs out c28_46 s1 Q | e => Q e s1) : wC fs out c28_40 s Q := wC_seq h
def c28_38 : ACode := .seq c28_39 c28_40
theorem s28_38 (h : wS fs out s.h.nx o28_39 s.t ⟨s.h.o, s.h.nx + 10⟩ fun s1 => wC fs out c28_40 s1 Q) : wC fs out c28_38 s Q := wC_seq (s28_39 h)
def c28_34 : ACode := .seq c28_35 c28_38
theorem s28_34 (h : wC fs out c28_35 s fun e s1 => match e with | .normal => wC fs out c28_38 s1 Q | e => Q e s1) : wC fs out c28_34 s Q := wC_seq h
def c28_32 : ACode := .seq c28_33 c28_34
theorem s28_32 (h : wS fs out s.h.nx o28_33 s.t ⟨s.h.o, s.h.nx + 6⟩ fun s1 => wC fs out c28_34 s1 Q) : wC fs out c28_32 s Q := wC_seq (s28_33 h)
def c28_31 : ACode := .block 3 c28_32
theorem s28_31 (h : wC fs out c28_32 s fun e s1 => Q (if e = .exit 3 then .normal else e) s1) : wC fs out c28_31 s Q := wC_block h
def o28_50 : List (Nat × AOper) := (0, ⟨some 105, .bin .add (.t 54) (.k (.v (.one (.int .i64 1)))), none⟩) ::
   (1, ⟨some 54, .mov (.t 105), none⟩) ::
   []
theorem h28_50 : wS fs out b o28_50 t h R = (wV fs out (b + 0) noT h (.bin .add (.k (t 54)) (.k (.v (.one (.int .i64 1))))) fun x105_0 h => wV fs out (b + 1) noT h (.mov (.k x105_0)) fun x54_1 h => R ⟨(upd (upd t 105 x105_0) 54 x54_1), h⟩) := by kernel_rfl
def c28_50 : ACode := .region (o28_50.map (·.2)) [0, 1] []
theorem s28_50 (h : wS fs out s.h.nx o28_50 s.t ⟨s.h.o, s.h.nx + 2⟩ (Q .normal)) : wC fs out c28_50 s Q := wC_region rfl rfl h
def c28_30 : ACode := .seq c28_31 c28_50
theorem s28_30 (h : wC fs out c28_31 s fun e s1 => match e with | .normal => wC fs out c28_50 s1 Q | e => Q e s1) : wC fs out c28_30 s Q := wC_seq h
def c28_28 : ACode := .seq c28_29 c28_30
theorem s28_28 (h : onC (s.t 55) (wC fs out c28_30 (keepOnly [0, 1, 2, 6, 7, 11, 12, 13, 36, 37, 38, 52, 53, 54] s) Q) (Q (.exit 2) (keepOnly [0, 1, 2, 6, 7, 11, 12, 13, 36, 37, 38, 52, 53, 54] s))) : wC fs out c28_28 s Q := wC_seq (s28_29 h)
def c28_26 : ACode := .seq c28_27 c28_28
theorem s28_26 (h : wS fs out s.h.nx o28_27 s.t ⟨s.h.o, s.h.nx + 1⟩ fun s1 => wC fs out c28_28 s1 Q) : wC fs out c28_26 s Q := wC_seq (s28_27 h)
def c28_25 : ACode := .loop [0, 1, 2, 6, 7, 11, 12, 13, 36, 37, 38, 52, 53, 54] c28_26
theorem s28_25 (I : Nat → St → Prop) (n : Nat) (h0 : I n (keepOnly [0, 1, 2, 6, 7, 11, 12, 13, 36, 37, 38, 52, 53, 54] s)) (step : ∀ m s (Q' : AExit → St → Prop), I m s → (∀ m' s1, m' < m → I m' (keepOnly [0, 1, 2, 6, 7, 11, 12, 13, 36, 37, 38, 52, 53, 54] s1) → Q' .normal s1) → (∀ i s1, Q (.exit i) s1 → Q' (.exit i) s1) → (∀ s1, Q .ret s1 → Q' .ret s1) → wC fs out c28_26 s Q') : wC fs out c28_25 s Q := wC_loopQ I n h0 step
def c28_24 : ACode := .block 2 c28_25
theorem s28_24 (h : wC fs out c28_25 s fun e s1 => Q (if e = .exit 2 then .normal else e) s1) : wC fs out c28_24 s Q := wC_block h
def c28_22 : ACode := .seq c28_23 c28_24
theorem s28_22 (h : wS fs out s.h.nx o28_23 s.t ⟨s.h.o, s.h.nx + 3⟩ fun s1 => wC fs out c28_24 s1 Q) : wC fs out c28_22 s Q := wC_seq (s28_23 h)
def c28_52 : ACode := .region [⟨some 106, .fadr 0 (.t 7), none⟩,
   ⟨some 107, .load none (.t 106), none⟩,
   ⟨some 108, .mov (.t 11), none⟩,
   ⟨some 109, .fadr 1 (.t 7), none⟩,
   ⟨some 110, .load none (.t 109), none⟩,
   ⟨some 111, .mov (.t 11), none⟩,
   ⟨some 112, .mov (.t 12), none⟩,
   ⟨some 113, .mov (.t 12), none⟩,
   ⟨some 114, .iadr 1 (.t 107) (.t 108), none⟩,
   ⟨none, .store 1 (.t 114) (.t 112), none⟩,
   ⟨some 115, .iadr 1 (.t 110) (.t 111), none⟩,
   ⟨none, .store 1 (.t 115) (.t 113), none⟩] [0, 1, 2, 3, 4, 5, 6, 7, 8, 9, 10, 11] [(9, [4])]
def o28_52 : List (Nat × AOper) := (0, ⟨some 106, .fadr 0 (.t 7), none⟩) ::
   (1, ⟨some 107, .load none (.t 106), none⟩) ::
   (2, ⟨some 108, .mov (.t 11), none⟩) ::
   (3, ⟨some 109, .fadr 1 (.t 7), none⟩) ::
   (4, ⟨some 110, .load none (.t 109), none⟩) ::
   (5, ⟨some 111, .mov (.t 11), none⟩) ::
   (6, ⟨some 112, .mov (.t 12), none⟩) ::
   (7, ⟨some 113, .mov (.t 12), none⟩) ::
   (8, ⟨some 114, .iadr 1 (.t 107) (.t 108), none⟩) ::
   (9, ⟨none, .store 1 (.t 114) (.t 112), none⟩) ::
   []
theorem h28_52 : wS fs out b o28_52 t h R = (wV fs out (b + 0) noT h (.fadr 0 (.k (t 7))) fun x106_0 h => wV fs out (b + 1) noT h (.load none (.k x106_0)) fun x107_1 h => wV fs out (b + 2) noT h (.mov (.k (t 11))) fun x108_2 h => wV fs out (b + 3) noT h (.fadr 1 (.k (t 7))) fun x109_3 h => wV fs out (b + 4) noT h (.load none (.k x109_3)) fun x110_4 h => wV fs out (b + 5) noT h (.mov (.k (t 11))) fun x111_5 h => wV fs out (b + 6) noT h (.mov (.k (t 12))) fun x112_6 h => wV fs out (b + 7) noT h (.mov (.k (t 12))) fun x113_7 h => wV fs out (b + 8) noT h (.iadr 1 (.k x107_1) (.k x108_2)) fun x114_8 h => wV fs out (b + 9) noT h (.store 1 (.k x114_8) (.k x112_6)) fun _ h => R ⟨(upd (upd (upd (upd (upd (upd (upd (upd (upd t 106 x106_0) 107 x107_1) 108 x108_2) 109 x109_3) 110 x110_4) 111 x111_5) 112 x112_6) 113 x113_7) 114 x114_8), h⟩) := by kernel_rfl
def o28_52h1 : List (Nat × AOper) := (10, ⟨some 115, .iadr 1 (.t 110) (.t 111), none⟩) ::
   (11, ⟨none, .store 1 (.t 115) (.t 113), none⟩) ::
   []
theorem h28_52h1 : wS fs out b o28_52h1 t h R = (wV fs out (b + 10) noT h (.iadr 1 (.k (t 110)) (.k (t 111))) fun x115_0 h => wV fs out (b + 11) noT h (.store 1 (.k x115_0) (.k (t 113))) fun _ h => R ⟨(upd t 115 x115_0), h⟩) := by kernel_rfl
theorem s28_52 (h : wS fs out s.h.nx o28_52 s.t ⟨s.h.o, s.h.nx + 12⟩ fun s1 => (holdOk s1 ⟨some 110, .load none (.t 109), none⟩ = true) ∧ wS fs out s.h.nx o28_52h1 s1.t s1.h (Q .normal)) : wC fs out c28_52 s Q := wC_regionP (wP_seg (run := [0, 1, 2, 3, 4, 5, 6, 7, 8]) (i0 := 9) (rest := [10, 11]) rfl rfl rfl (wS_mono _ h fun s1 hh1 => ⟨by simpa [and_assoc, holdsB, holdsOf] using hh1.1, (wP_end (run := [10, 11]) rfl rfl rfl hh1.2)⟩))
def o28_54 : List (Nat × AOper) := (0, ⟨some 116, .mov (.t 2), none⟩) ::
   (1, ⟨some 117, .len (.t 116), none⟩) ::
   (2, ⟨some 118, .mov (.k (.v (.one (.int .i64 0)))), none⟩) ::
   []
theorem h28_54 : wS fs out b o28_54 t h R = (wV fs out (b + 0) noT h (.mov (.k (t 2))) fun x116_0 h => wV fs out (b + 1) noT h (.len (.k x116_0)) fun x117_1 h => wV fs out (b + 2) noT h (.mov (.k (.v (.one (.int .i64 0))))) fun x118_2 h => R ⟨(upd (upd (upd t 116 x116_0) 117 x117_1) 118 x118_2), h⟩) := by kernel_rfl
def c28_54 : ACode := .region (o28_54.map (·.2)) [0, 1, 2] []
theorem s28_54 (h : wS fs out s.h.nx o28_54 s.t ⟨s.h.o, s.h.nx + 3⟩ (Q .normal)) : wC fs out c28_54 s Q := wC_region rfl rfl h
def o28_58 : List (Nat × AOper) := (0, ⟨some 119, .bin .lss (.t 118) (.t 117), none⟩) ::
   []
theorem h28_58 : wS fs out b o28_58 t h R = (wV fs out (b + 0) noT h (.bin .lss (.k (t 118)) (.k (t 117))) fun x119_0 h => R ⟨(upd t 119 x119_0), h⟩) := by kernel_rfl
def c28_58 : ACode := .region (o28_58.map (·.2)) [0] []
theorem s28_58 (h : wS fs out s.h.nx o28_58 s.t ⟨s.h.o, s.h.nx + 1⟩ (Q .normal)) : wC fs out c28_58 s Q := wC_region rfl rfl h
def c28_60 : ACode := .cond (.t 119) .skip (.exit 4) [0, 1, 2, 6, 7, 11, 36, 37, 38, 116, 117, 118]
theorem s28_60 (h : onC (s.t 119) (Q .normal (keepOnly [0, 1, 2, 6, 7, 11, 36, 37, 38, 116, 117, 118] s)) (Q (.exit 4) (keepOnly [0, 1, 2, 6, 7, 11, 36, 37, 38, 116, 117, 118] s))) : wC fs out c28_60 s Q := wC_condC (by first | exact h | (simp only [wC_skip, wC_exit, wC_ret]; exact h))
def o28_64 : List (Nat × AOper) := (0, ⟨some 120, .iadr 2 (.t 116) (.t 118), none⟩) ::
   (1, ⟨some 121, .load (some 2) (.t 120), none⟩) ::
   (2, ⟨some 18, .new 39 [(.int .i64 0), (.int .i64 0)], none⟩) ::
   (3, ⟨none, .store 2 (.t 18) (.t 121), none⟩) ::
   []
theorem h28_64 : wS fs out b o28_64 t h R = (wV fs out (b + 0) noT h (.iadr 2 (.k (t 116)) (.k (t 118))) fun x120_0 h => wV fs out (b + 1) noT h (.load (some 2) (.k x120_0)) fun x121_1 h => wV fs out (b + 2) noT h (.new 39 [(.int .i64 0), (.int .i64 0)]) fun x18_2 h => wV fs out (b + 3) noT h (.store 2 (.k x18_2) (.k x121_1)) fun _ h => R ⟨(upd (upd (upd t 120 x120_0) 121 x121_1) 18 x18_2), h⟩) := by kernel_rfl
def c28_64 : ACode := .region (o28_64.map (·.2)) [0, 1, 2, 3] []
theorem s28_64 (h : wS fs out s.h.nx o28_64 s.t ⟨s.h.o, s.h.nx + 4⟩ (Q .normal)) : wC fs out c28_64 s Q := wC_region rfl rfl h
def o28_66 : List (Nat × AOper) := (0, ⟨some 122, .fadr 0 (.t 18), none⟩) ::
   (1, ⟨some 123, .load none (.t 122), none⟩) ::
   (2, ⟨some 124, .mov (.t 11), none⟩) ::
   (3, ⟨some 125, .bin .eql (.t 123) (.t 124), none⟩) ::
   []
theorem h28_66 : wS fs out b o28_66 t h R = (wV fs out (b + 0) noT h (.fadr 0 (.k (t 18))) fun x122_0 h => wV fs out (b + 1) noT h (.load none (.k x122_0)) fun x123_1 h => wV fs out (b + 2) noT h (.mov (.k (t 11))) fun x124_2 h => wV fs out (b + 3) noT h (.bin .eql (.k x123_1) (.k x124_2)) fun x125_3 h => R ⟨(upd (upd (upd (upd t 122 x122_0) 123 x123_1) 124 x124_2) 125 x125_3), h⟩) := by kernel_rfl
def c28_66 : ACode := .region (o28_66.map (·.2)) [0, 1, 2, 3] []
theorem s28_66 (h : wS fs out s.h.nx o28_66 s.t ⟨s.h.o, s.h.nx + 4⟩ (Q .normal)) : wC fs out c28_66 s Q := wC_region rfl rfl h
def o28_68 : List (Nat × AOper) := (0, ⟨some 126, .fadr 1 (.t 7), none⟩) ::
   (1, ⟨some 127, .load none (.t 126), none⟩) ::
   (2, ⟨some 128, .mov (.t 11), none⟩) ::
   (3, ⟨some 129, .iadr 1 (.t 127) (.t 128), none⟩) ::
   (4, ⟨some 130, .load none (.t 129), none⟩) ::
   (5, ⟨some 131, .fadr 1 (.t 18), none⟩) ::
   (6, ⟨some 132, .load none (.t 131), none⟩) ::
   (7, ⟨some 133, .bin .add (.t 130) (.t 132), none⟩) ::
   (8, ⟨some 134, .iadr 1 (.t 127) (.t 128), none⟩) ::
   (9, ⟨none, .store 1 (.t 134) (.t 133), none⟩) ::
   []
theorem h28_68 : wS fs out b o28_68 t h R = (wV fs out (b + 0) noT h (.fadr 1 (.k (t 7))) fun x126_0 h => wV fs out (b + 1) noT h (.load none (.k x126_0)) fun x127_1 h => wV fs out (b + 2) noT h (.mov (.k (t 11))) fun x128_2 h => wV fs out (b + 3) noT h (.iadr 1 (.k x127_1) (.k x128_2)) fun x129_3 h => wV fs out (b + 4) noT h (.load none (.k x129_3)) fun x130_4 h => wV fs out (b + 5) noT h (.fadr 1 (.k (t 18))) fun x131_5 h => wV fs out (b + 6) noT h (.load none (.k x131_5)) fun x132_6 h => wV fs out (b + 7) noT h (.bin .add (.k x130_4) (.k x132_6)) fun x133_7 h => wV fs out (b + 8) noT h (.iadr 1 (.k x127_1) (.k x128_2)) fun x134_8 h => wV fs out (b + 9) noT h (.store 1 (.k x134_8) (.k x133_7)) fun _ h => R ⟨(upd (upd (upd (upd (upd (upd (upd (upd (upd t 126 x126_0) 127 x127_1) 128 x128_2) 129 x129_3) 130 x130_4) 131 x131_5) 132 x132_6) 133 x133_7) 134 x134_8), h⟩) := by kernel_rfl
def c28_68 : ACode := .region (o28_68.map (·.2)) [0, 1, 2, 3, 4, 5, 6, 7, 8, 9] []
theorem s28_68 (h : wS fs out s.h.nx o28_68 s.t ⟨s.h.o, s.h.nx + 10⟩ (Q .normal)) : wC fs out c28_68 s Q := wC_region rfl rfl h
def c28_67 : ACode := .cond (.t 125) c28_68 .skip [0, 1, 2, 6, 7, 11, 36, 37, 38, 116, 117, 118]
theorem s28_67 (h : onC (s.t 125) (wC fs out c28_68 s fun e s1 => Q e (keepOnly [0, 1, 2, 6, 7, 11, 36, 37, 38, 116, 117, 118] s1)) (Q .normal (keepOnly [0, 1, 2, 6, 7, 11, 36, 37, 38, 116, 117, 118] s))) : wC fs out c28_67 s Q := wC_condC (by first | exact h | (simp only [wC_skip, wC_exit, wC_ret]; exact h))
def c28_65 : ACode := .seq c28_66 c28_67
theorem s28_65 (h : wS fs out s.h.nx o28_66 s.t ⟨s.h.o, s.h.nx + 4⟩ fun s1 => wC fs out c28_67 s1 Q) : wC fs out c28_65 s Q := wC_seq (s28_66 h)
def c28_63 : ACode := .seq c28_64 c28_65
theorem s28_63 (h : wS fs out s.h.nx o28_64 s.t ⟨s.h.o, s.h.nx + 4⟩ fun s1 => wC fs out c28_65 s1 Q) : wC fs out c28_63 s Q := wC_seq (s28_64 h)
def c28_62 : ACode := .block 5 c28_63
theorem s28_62 (h : wC fs out c28_63 s fun e s1 => Q (if e = .exit 5 then .normal else e) s1) : wC fs out c28_62 s Q := wC_block h
def o28_69 : List (Nat × AOper) := (0, ⟨some 135, .bin .add (.t 118) (.k (.v (.one (.int .i64 1)))), none⟩) ::
   (1, ⟨some 118, .mov (.t 135), none⟩) ::
   []
theorem h28_69 : wS fs out b o28_69 t h R = (wV fs out (b + 0) noT h (.bin .add (.k (t 118)) (.k (.v (.one (.int .i64 1))))) fun x135_0 h => wV fs out (b + 1) noT h (.mov (.k x135_0)) fun x118_1 h => R ⟨(upd (upd t 135 x135_0) 118 x118_1), h⟩) := by kernel_rfl
def c28_69 : ACode := .region (o28_69.map (·.2)) [0, 1] []
theorem s28_69 (h : wS fs out s.h.nx o28_69 s.t ⟨s.h.o, s.h.nx + 2⟩ (Q .normal)) : wC fs out c28_69 s Q := wC_region rfl rfl h
def c28_61 : ACode := .seq c28_62 c28_69
theorem s28_61 (h : wC fs out c28_62 s fun e s1 => match e with | .normal => wC fs out c28_69 s1 Q | e => Q e s1) : wC fs out c28_61 s Q := wC_seq h
def c28_59 : ACode := .seq c28_60 c28_61
theorem s28_59 (h : onC (s.t 119) (wC fs out c28_61 (keepOnly [0, 1, 2, 6, 7, 11, 36, 37, 38, 116, 117, 118] s) Q) (Q (.exit 4) (keepOnly [0, 1, 2, 6, 7, 11, 36, 37, 38, 116, 117, 118] s))) : wC fs out c28_59 s Q := wC_seq (s28_60 h)
def c28_57 : ACode := .seq c28_58 c28_59
theorem s28_57 (h : wS fs out s.h.nx o28_58 s.t ⟨s.h.o, s.h.nx + 1⟩ fun s1 => wC fs out c28_59 s1 Q) : wC fs out c28_57 s Q := wC_seq (s28_58 h)
def c28_56 : ACode := .loop [0, 1, 2, 6, 7, 11, 36, 37, 38, 116, 117, 118] c28_57
theorem s28_56 (I : Nat → St → Prop) (n : Nat) (h0 : I n (keepOnly [0, 1, 2, 6, 7, 11, 36, 37, 38, 116, 117, 118] s)) (step : ∀ m s (Q' : AExit → St → Prop), I m s → (∀ m' s1, m' < m → I m' (keepOnly [0, 1, 2, 6, 7, 11, 36, 37, 38, 116, 117, 118] s1) → Q' .normal s1) → (∀ i s1, Q (.exit i) s1 → Q' (.exit i) s1) → (∀ s1, Q .ret s1 → Q' .ret s1) → wC fs out c28_57 s Q') : wC fs out c28_56 s Q := wC_loopQ I n h0 step
def c28_55 : ACode := .block 4 c28_56
theorem s28_55 (h : wC fs out c28_56 s fun e s1 => Q (if e = .exit 4 then .normal else e) s1) : wC fs out c28_55 s Q := wC_block h
def c28_53 : ACode := .seq c28_54 c28_55
theorem s28_53 (h : wS fs out s.h.nx o28_54 s.t ⟨s.h.o, s.h.nx + 3⟩ fun s1 => wC fs out c28_55 s1 Q) : wC fs out c28_53 s Q := wC_seq (s28_54 h)
def c28_51 : ACode := .seq c28_52 c28_53
theorem s28_51 (h : wC fs out c28_52 s fun e s1 => match e with | .normal => wC fs out c28_53 s1 Q | e => Q e s1) : wC fs out c28_51 s Q := wC_seq h
def c28_21 : ACode := .seq c28_22 c28_51
theorem s28_21 (h : wC fs out c28_22 s fun e s1 => match e with | .normal => wC fs out c28_51 s1 Q | e => Q e s1) : wC fs out c28_21 s Q := wC_seq h
def c28_19 : ACode := .seq c28_20 c28_21
theorem s28_19 (h : wS fs out s.h.nx o28_20 s.t ⟨s.h.o, s.h.nx + 12⟩ fun s1 => wC fs out c28_21 s1 Q) : wC fs out c28_19 s Q := wC_seq (s28_20 h)
def c28_17 : ACode := .seq c28_18 c28_19
theorem s28_17 (h : wS fs out s.h.nx o28_18 s.t ⟨s.h.o, s.h.nx + 3⟩ fun s1 => wC fs out c28_19 s1 Q) : wC fs out c28_17 s Q := wC_seq (s28_18 h)
def c28_16 : ACode := .block 1 c28_17
theorem s28_16 (h : wC fs out c28_17 s fun e s1 => Q (if e = .exit 1 then .normal else e) s1) : wC fs out c28_16 s Q := wC_block h
def o28_70 : List (Nat × AOper) := (0, ⟨some 136, .bin .add (.t 38) (.k (.v (.one (.int .i64 1)))), none⟩) ::
   (1, ⟨some 38, .mov (.t 136), none⟩) ::
   []
theorem h28_70 : wS fs out b o28_70 t h R = (wV fs out (b + 0) noT h (.bin .add (.k (t 38)) (.k (.v (.one (.int .i64 1))))) fun x136_0 h => wV fs out (b + 1) noT h (.mov (.k x136_0)) fun x38_1 h => R ⟨(upd (upd t 136 x136_0) 38 x38_1), h⟩) := by kernel_rfl
def c28_70 : ACode := .region (o28_70.map (·.2)) [0, 1] []
theorem s28_70 (h : wS fs out s.h.nx o28_70 s.t ⟨s.h.o, s.h.nx + 2⟩ (Q .normal)) : wC fs out c28_70 s Q := wC_region rfl rfl h
def c28_15 : ACode := .seq c28_16 c28_70
theorem s28_15 (h : wC fs out c28_16 s fun e s1 => match e with | .normal => wC fs out c28_70 s1 Q | e => Q e s1) : wC fs out c28_15 s Q := wC_seq h
def c28_13 : ACode := .seq c28_14 c28_15
theorem s28_13 (h : onC (s.t 39) (wC fs out c28_15 (keepOnly [0, 1, 2, 6, 7, 36, 37, 38] s) Q) (Q (.exit 0) (keepOnly [0, 1, 2, 6, 7, 36, 37, 38] s))) : wC fs out c28_13 s Q := wC_seq (s28_14 h)
def c28_11 : ACode := .seq c28_12 c28_13
theorem s28_11 (h : wS fs out s.h.nx o28_12 s.t ⟨s.h.o, s.h.nx + 1⟩ fun s1 => wC fs out c28_13 s1 Q) : wC fs out c28_11 s Q := wC_seq (s28_12 h)
def c28_10 : ACode := .loop [0, 1, 2, 6, 7, 36, 37, 38] c28_11
theorem s28_10 (I : Nat → St → Prop) (n : Nat) (h0 : I n (keepOnly [0, 1, 2, 6, 7, 36, 37, 38] s)) (step : ∀ m s (Q' : AExit → St → Prop), I m s → (∀ m' s1, m' < m → I m' (keepOnly [0, 1, 2, 6, 7, 36, 37, 38] s1) → Q' .normal s1) → (∀ i s1, Q (.exit i) s1 → Q' (.exit i) s1) → (∀ s1, Q .ret s1 → Q' .ret s1) → wC fs out c28_11 s Q') : wC fs out c28_10 s Q := wC_loopQ I n h0 step
def c28_9 : ACode := .block 0 c28_10
theorem s28_9 (h : wC fs out c28_10 s fun e s1 => Q (if e = .exit 0 then .normal else e) s1) : wC fs out c28_9 s Q := wC_block h
def c28_7 : ACode := .seq c28_8 c28_9
theorem s28_7 (h : wS fs out s.h.nx o28_8 s.t ⟨s.h.o, s.h.nx + 3⟩ fun s1 => wC fs out c28_9 s1 Q) : wC fs out c28_7 s Q := wC_seq (s28_8 h)
def o28_72 : List (Nat × AOper) := (0, ⟨some 137, .load (some 3) (.t 7), none⟩) ::
   (1, ⟨none, .store 3 (.t 6) (.t 137), none⟩) ::
   []
theorem h28_72 : wS fs out b o28_72 t h R = (wV fs out (b + 0) noT h (.load (some 3) (.k (t 7))) fun x137_0 h => wV fs out (b + 1) noT h (.store 3 (.k (t 6)) (.k x137_0)) fun _ h => R ⟨(upd t 137 x137_0), h⟩) := by kernel_rfl
def c28_72 : ACode := .region (o28_72.map (·.2)) [0, 1] []
theorem s28_72 (h : wS fs out s.h.nx o28_72 s.t ⟨s.h.o, s.h.nx + 2⟩ (Q .normal)) : wC fs out c28_72 s Q := wC_region rfl rfl h
def c28_71 : ACode := .seq c28_72 .ret
theorem s28_71 (h : wS fs out s.h.nx o28_72 s.t ⟨s.h.o, s.h.nx + 2⟩ fun s1 => wC fs out .ret s1 Q) : wC fs out c28_71 s Q := wC_seq (s28_72 h)
def c28_6 : ACode := .seq c28_7 c28_71
theorem s28_6 (h : wC fs out c28_7 s fun e s1 => match e with | .normal => wC fs out c28_71 s1 Q | e => Q e s1) : wC fs out c28_6 s Q := wC_seq h
def c28_4 : ACode := .seq c28_5 c28_6
theorem s28_4 (h : wS fs out s.h.nx o28_5 s.t ⟨s.h.o, s.h.nx + 9⟩ fun s1 => wC fs out c28_6 s1 Q) : wC fs out c28_4 s Q := wC_seq (s28_5 h)
def c28_2 : ACode := .seq c28_3 c28_4
theorem s28_2 (h : wS fs out s.h.nx o28_3 s.t ⟨s.h.o, s.h.nx + 12⟩ fun s1 => wC fs out c28_4 s1 Q) : wC fs out c28_2 s Q := wC_seq (s28_3 h)
def c28_0 : ACode := .seq c28_1 c28_2
theorem s28_0 (h : wS fs out s.h.nx o28_1 s.t ⟨s.h.o, s.h.nx + 1⟩ fun s1 => wC fs out c28_2 s1 Q) : wC fs out c28_0 s Q := wC_seq (s28_1 h)
def a28 : AFunc := ⟨3, [6], some (some 3), c28_0⟩
theorem t28 : tell Try.prog Try.f28 [([0, 1, 3, 4, 6, 7, 2, 5, 8, 9, 10, 11], [], [0, 1, 3, 0, 8, 24, 0, 64, 192, 511, 0, 2047]), ([0, 1, 2, 6, 7, 36, 37, 38], [], []), ([0, 1, 2, 6, 7, 36, 37, 38], [], []), ([0, 1, 2, 3, 4, 5, 6, 7, 8, 9, 10, 11], [], [0, 0, 3, 7, 15, 0, 0, 96, 224, 480, 31, 2047]), ([0, 1, 2, 6, 7, 11, 12, 13, 36, 37, 38, 52, 53, 54], [], []), ([0, 1, 2, 6, 7, 11, 12, 13, 36, 37, 38, 52, 53, 54], [], []), ([0, 1, 2, 6, 7, 11, 12, 13, 14, 15, 36, 37, 38, 52, 53, 54], [], []), ([0, 1, 2, 3, 4, 5, 6, 7, 8, 9], [], [0, 1, 0, 4, 15, 31, 0, 64, 255, 511]), ([0, 1, 2, 3, 4, 5, 6, 7, 8, 9, 10, 11, 12, 13, 14, 15, 16, 17, 18, 19], [], [0, 1, 0, 0, 8, 24, 56, 120, 120, 120, 888, 1912, 3960, 120, 8312, 32632, 65528, 131064, 262143, 524287]), ([0, 1, 2, 6, 7, 11, 12, 13, 16, 36, 37, 38, 52, 53, 54], [], []), ([0, 1, 2, 6, 7, 11, 12, 13, 36, 37, 38, 52, 53, 54], [], []), ([0, 1, 2, 3, 4, 5, 6, 7, 8, 9, 10, 11], [(9, [4])], [0, 1, 0, 0, 8, 0, 0, 0, 71, 327, 1023, 2047]), ([0, 1, 2, 6, 7, 11, 36, 37, 38, 116, 117, 118], [], []), ([0, 1, 2, 6, 7, 11, 36, 37, 38, 116, 117, 118], [], []), ([0, 1, 2, 6, 7, 11, 36, 37, 38, 116, 117, 118], [], []), ([0, 1, 2, 3, 4, 5, 6, 7, 8, 9], [], [0, 1, 0, 7, 15, 0, 32, 127, 255, 511])] = some a28 := by kernel_rfl
theorem ok28 : FuncOk Try.prog 28 a28 := tell_ok Try.func28 t28

end Go.Proofs.Ythoicdnlcnppgaa.Fn
