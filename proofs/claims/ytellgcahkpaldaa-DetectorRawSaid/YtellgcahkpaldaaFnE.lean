/- Functions of the program, as the abstract machine's, and that they are. Conditions: none. -/
import Derived.Test.YtellgcahkpaldaaAmCo
import Derived.Test.YtellgcahkpaldaaAmEv
import Derived.Test.YtellgcahkpaldaaProg
set_option linter.unusedVariables false
set_option linter.unusedSimpArgs false
namespace Go.Proofs.Ytellgcahkpaldaa.Fn
open Go Go.Am
set_option maxRecDepth 100000
variable {fs : Nat → Option AFunc} {out : Rec} {s : St} {Q : AExit → St → Prop} {b : Nat} {t : Nat → T} {h : AH} {R : St → Prop}
/-- railplan/railplanref30.sound -/
def o28_1 : List (Nat × AOper) := (0, ⟨some 1, .box 26 3 (.t 0), none⟩) ::
   (1, ⟨some 2, .mov (.k (.v (.one (.bool false)))), none⟩) ::
   []
theorem h28_1 : wS fs out b o28_1 t h R = (wV fs out (b + 0) noT h (.box 26 3 (.k (t 0))) fun x1_0 h => wV fs out (b + 1) noT h (.mov (.k (.v (.one (.bool false))))) fun x2_1 h => R ⟨(upd (upd t 1 x1_0) 2 x2_1), h⟩) := by kernel_rfl
def c28_1 : ACode := .region (o28_1.map (·.2)) [0, 1] []
theorem s28_1 (h : wS fs out s.h.nx o28_1 s.t ⟨s.h.o, s.h.nx + 2⟩ (Q .normal)) : wC fs out c28_1 s Q := wC_region rfl rfl h
def o28_3_8 : List (Nat × AOper) := (24, ⟨some 27, .pick (.t 23) (.t 26) (.k (.v (.one (.bool false)))), none⟩) ::
   (25, ⟨some 2, .mov (.t 27), none⟩) ::
   []
theorem h28_3_8 : wS fs out b o28_3_8 t h R = (wV fs out (b + 24) noT h (.pick (.k (t 23)) (.k (t 26)) (.k (.v (.one (.bool false))))) fun x27_0 h => wV fs out (b + 25) noT h (.mov (.k x27_0)) fun x2_1 h => R ⟨(upd (upd t 27 x27_0) 2 x2_1), h⟩) := by kernel_rfl
def o28_3_7g : List (Nat × AOper) := (21, ⟨some 24, .fadr 1 (.t 1), none⟩) ::
   (22, ⟨some 25, .load none (.t 24), none⟩) ::
   (23, ⟨some 26, .bin .leq (.t 25) (.k (.v (.one (.int .i64 1600)))), none⟩) ::
   []
theorem h28_3_7g : wS fs out b o28_3_7g t h R = (wV fs out (b + 21) noT h (.fadr 1 (.k (t 1))) fun x24_0 h => wV fs out (b + 22) noT h (.load none (.k x24_0)) fun x25_1 h => wV fs out (b + 23) noT h (.bin .leq (.k x25_1) (.k (.v (.one (.int .i64 1600))))) fun x26_2 h => R ⟨(upd (upd (upd t 24 x24_0) 25 x25_1) 26 x26_2), h⟩) := by kernel_rfl
def o28_3_7 : List (Nat × AOper) := grp 23 true o28_3_7g o28_3_8
theorem w28_3_7 : wS fs out b o28_3_7 t h R = onG (t 23) true (wS fs out b o28_3_7g (upd t 23 (.v (.one (.bool true)))) h fun s => wS fs out b o28_3_8 s.t s.h R) (wS fs out b o28_3_8 (upd (upd (upd (upd t 23 (.v (.one (.bool false)))) 24 (.tup [])) 25 (.tup [])) 26 (.tup [])) h R) (wS fs out b o28_3_8 (upd (upd (upd t 24 (.tup [])) 25 (.tup [])) 26 (.tup [])) h R) := wS_grpE rfl
def o28_3_6 : List (Nat × AOper) := (19, ⟨some 22, .pick (.t 18) (.t 21) (.k (.v (.one (.bool false)))), none⟩) ::
   (20, ⟨some 23, .mov (.t 22), none⟩) ::
   o28_3_7
theorem h28_3_6 : wS fs out b o28_3_6 t h R = (wV fs out (b + 19) noT h (.pick (.k (t 18)) (.k (t 21)) (.k (.v (.one (.bool false))))) fun x22_0 h => wV fs out (b + 20) noT h (.mov (.k x22_0)) fun x23_1 h => wS fs out b o28_3_7 (upd (upd t 22 x22_0) 23 x23_1) h R) := by kernel_rfl
def o28_3_5g : List (Nat × AOper) := (16, ⟨some 19, .fadr 1 (.t 1), none⟩) ::
   (17, ⟨some 20, .load none (.t 19), none⟩) ::
   (18, ⟨some 21, .bin .geq (.t 20) (.k (.v (.one (.int .i64 0)))), none⟩) ::
   []
theorem h28_3_5g : wS fs out b o28_3_5g t h R = (wV fs out (b + 16) noT h (.fadr 1 (.k (t 1))) fun x19_0 h => wV fs out (b + 17) noT h (.load none (.k x19_0)) fun x20_1 h => wV fs out (b + 18) noT h (.bin .geq (.k x20_1) (.k (.v (.one (.int .i64 0))))) fun x21_2 h => R ⟨(upd (upd (upd t 19 x19_0) 20 x20_1) 21 x21_2), h⟩) := by kernel_rfl
def o28_3_5 : List (Nat × AOper) := grp 18 true o28_3_5g o28_3_6
theorem w28_3_5 : wS fs out b o28_3_5 t h R = onG (t 18) true (wS fs out b o28_3_5g (upd t 18 (.v (.one (.bool true)))) h fun s => wS fs out b o28_3_6 s.t s.h R) (wS fs out b o28_3_6 (upd (upd (upd (upd t 18 (.v (.one (.bool false)))) 19 (.tup [])) 20 (.tup [])) 21 (.tup [])) h R) (wS fs out b o28_3_6 (upd (upd (upd t 19 (.tup [])) 20 (.tup [])) 21 (.tup [])) h R) := wS_grpE rfl
def o28_3_4 : List (Nat × AOper) := (14, ⟨some 17, .pick (.t 11) (.t 16) (.k (.v (.one (.bool false)))), none⟩) ::
   (15, ⟨some 18, .mov (.t 17), none⟩) ::
   o28_3_5
theorem h28_3_4 : wS fs out b o28_3_4 t h R = (wV fs out (b + 14) noT h (.pick (.k (t 11)) (.k (t 16)) (.k (.v (.one (.bool false))))) fun x17_0 h => wV fs out (b + 15) noT h (.mov (.k x17_0)) fun x18_1 h => wS fs out b o28_3_5 (upd (upd t 17 x17_0) 18 x18_1) h R) := by kernel_rfl
def o28_3_3g : List (Nat × AOper) := (9, ⟨some 12, .fadr 1 (.t 1), none⟩) ::
   (10, ⟨some 13, .load none (.t 12), none⟩) ::
   (11, ⟨some 14, .fadr 2 (.t 1), none⟩) ::
   (12, ⟨some 15, .load none (.t 14), none⟩) ::
   (13, ⟨some 16, .bin .eql (.t 13) (.t 15), none⟩) ::
   []
theorem h28_3_3g : wS fs out b o28_3_3g t h R = (wV fs out (b + 9) noT h (.fadr 1 (.k (t 1))) fun x12_0 h => wV fs out (b + 10) noT h (.load none (.k x12_0)) fun x13_1 h => wV fs out (b + 11) noT h (.fadr 2 (.k (t 1))) fun x14_2 h => wV fs out (b + 12) noT h (.load none (.k x14_2)) fun x15_3 h => wV fs out (b + 13) noT h (.bin .eql (.k x13_1) (.k x15_3)) fun x16_4 h => R ⟨(upd (upd (upd (upd (upd t 12 x12_0) 13 x13_1) 14 x14_2) 15 x15_3) 16 x16_4), h⟩) := by kernel_rfl
def o28_3_3 : List (Nat × AOper) := grp 11 true o28_3_3g o28_3_4
theorem w28_3_3 : wS fs out b o28_3_3 t h R = onG (t 11) true (wS fs out b o28_3_3g (upd t 11 (.v (.one (.bool true)))) h fun s => wS fs out b o28_3_4 s.t s.h R) (wS fs out b o28_3_4 (upd (upd (upd (upd (upd (upd t 11 (.v (.one (.bool false)))) 12 (.tup [])) 13 (.tup [])) 14 (.tup [])) 15 (.tup [])) 16 (.tup [])) h R) (wS fs out b o28_3_4 (upd (upd (upd (upd (upd t 12 (.tup [])) 13 (.tup [])) 14 (.tup [])) 15 (.tup [])) 16 (.tup [])) h R) := wS_grpE rfl
def o28_3_2 : List (Nat × AOper) := (7, ⟨some 10, .pick (.t 6) (.k (.v (.one (.bool true)))) (.t 9), none⟩) ::
   (8, ⟨some 11, .mov (.t 10), none⟩) ::
   o28_3_3
theorem h28_3_2 : wS fs out b o28_3_2 t h R = (wV fs out (b + 7) noT h (.pick (.k (t 6)) (.k (.v (.one (.bool true)))) (.k (t 9))) fun x10_0 h => wV fs out (b + 8) noT h (.mov (.k x10_0)) fun x11_1 h => wS fs out b o28_3_3 (upd (upd t 10 x10_0) 11 x11_1) h R) := by kernel_rfl
def o28_3_1g : List (Nat × AOper) := (4, ⟨some 7, .fadr 0 (.t 1), none⟩) ::
   (5, ⟨some 8, .load none (.t 7), none⟩) ::
   (6, ⟨some 9, .bin .eql (.t 8) (.k (.v (.one (.int .i64 2)))), none⟩) ::
   []
theorem h28_3_1g : wS fs out b o28_3_1g t h R = (wV fs out (b + 4) noT h (.fadr 0 (.k (t 1))) fun x7_0 h => wV fs out (b + 5) noT h (.load none (.k x7_0)) fun x8_1 h => wV fs out (b + 6) noT h (.bin .eql (.k x8_1) (.k (.v (.one (.int .i64 2))))) fun x9_2 h => R ⟨(upd (upd (upd t 7 x7_0) 8 x8_1) 9 x9_2), h⟩) := by kernel_rfl
def o28_3_1 : List (Nat × AOper) := grp 6 false o28_3_1g o28_3_2
theorem w28_3_1 : wS fs out b o28_3_1 t h R = onG (t 6) false (wS fs out b o28_3_1g (upd t 6 (.v (.one (.bool false)))) h fun s => wS fs out b o28_3_2 s.t s.h R) (wS fs out b o28_3_2 (upd (upd (upd (upd t 6 (.v (.one (.bool true)))) 7 (.tup [])) 8 (.tup [])) 9 (.tup [])) h R) (wS fs out b o28_3_2 (upd (upd (upd t 7 (.tup [])) 8 (.tup [])) 9 (.tup [])) h R) := wS_grpE rfl
def o28_3 : List (Nat × AOper) := (0, ⟨some 3, .fadr 0 (.t 1), none⟩) ::
   (1, ⟨some 4, .load none (.t 3), none⟩) ::
   (2, ⟨some 5, .bin .eql (.t 4) (.k (.v (.one (.int .i64 0)))), none⟩) ::
   (3, ⟨some 6, .mov (.t 5), none⟩) ::
   o28_3_1
theorem h28_3 : wS fs out b o28_3 t h R = (wV fs out (b + 0) noT h (.fadr 0 (.k (t 1))) fun x3_0 h => wV fs out (b + 1) noT h (.load none (.k x3_0)) fun x4_1 h => wV fs out (b + 2) noT h (.bin .eql (.k x4_1) (.k (.v (.one (.int .i64 0))))) fun x5_2 h => wV fs out (b + 3) noT h (.mov (.k x5_2)) fun x6_3 h => wS fs out b o28_3_1 (upd (upd (upd (upd t 3 x3_0) 4 x4_1) 5 x5_2) 6 x6_3) h R) := by kernel_rfl
def c28_3 : ACode := .region (o28_3.map (·.2)) [0, 1, 2, 3, 4, 5, 6, 7, 8, 9, 10, 11, 12, 13, 14, 15, 16, 17, 18, 19, 20, 21, 22, 23, 24, 25] []
theorem s28_3 (h : wS fs out s.h.nx o28_3 s.t ⟨s.h.o, s.h.nx + 26⟩ (Q .normal)) : wC fs out c28_3 s Q := wC_region rfl rfl h
def c28_2 : ACode := .seq c28_3 .ret
theorem s28_2 (h : wS fs out s.h.nx o28_3 s.t ⟨s.h.o, s.h.nx + 26⟩ fun s1 => wC fs out .ret s1 Q) : wC fs out c28_2 s Q := wC_seq (s28_3 h)
def c28_0 : ACode := .seq c28_1 c28_2
theorem s28_0 (h : wS fs out s.h.nx o28_1 s.t ⟨s.h.o, s.h.nx + 2⟩ fun s1 => wC fs out c28_2 s1 Q) : wC fs out c28_0 s Q := wC_seq (s28_1 h)
def a28 : AFunc := ⟨1, [2], none, c28_0⟩
theorem t28 : tell Try.prog Try.f28 [] = some a28 := by kernel_rfl
theorem ok28 : FuncOk Try.prog 28 a28 := tell_ok Try.func28 t28

end Go.Proofs.Ytellgcahkpaldaa.Fn
