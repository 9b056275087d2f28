/- Functions of the program, as the abstract machine's, and that they are. Conditions: none. -/
import Derived.Test.YtellgcahkpaldaaAmCo
import Derived.Test.YtellgcahkpaldaaProg
set_option linter.unusedVariables false
namespace Go.Proofs.Ytellgcahkpaldaa.Fn
open Go Go.Am
set_option maxRecDepth 100000
/-- railplan/detector.Run -/
def a23 : AFunc := ⟨2, [4, 5], none,
 (.seq
 (.region [⟨some 4, .mov (.k (.v (.one .nils))), none⟩,
   ⟨some 5, .mov (.k (.v (.one (.int .i64 0)))), none⟩] [0, 1] [])
 (.seq
 (.seq
 (.region [⟨some 12, .mov (.t 0), none⟩,
   ⟨some 13, .bin .lss (.t 12) (.k (.v (.one (.int .i64 0)))), none⟩,
   ⟨some 14, .mov (.t 13), none⟩,
   ⟨some 15, .mov (.t 0), some (14, false)⟩,
   ⟨some 16, .bin .gtr (.t 15) (.k (.v (.one (.int .i64 144)))), some (14, false)⟩,
   ⟨some 17, .pick (.t 14) (.k (.v (.one (.bool true)))) (.t 16), none⟩] [0, 1, 2, 3, 4, 5] [])
 (.cond (.t 17)
  (.seq
  (.region [⟨some 4, .mov (.k (.v (.one .nils))), none⟩,
    ⟨some 5, .mov (.k (.v (.one (.int .i64 4)))), none⟩] [0, 1] [])
  .ret)
  .skip [0, 1, 4, 5]))
 (.seq
 (.seq
 (.region [⟨some 18, .mov (.t 1), none⟩,
   ⟨some 19, .len (.t 18), none⟩,
   ⟨some 20, .mov (.k (.v (.one (.int .i64 0)))), none⟩] [0, 1, 2] [])
 (.block 0
  (.loop [0, 1, 18, 19, 20]
   (.seq
   (.region [⟨some 21, .bin .lss (.t 20) (.t 19), none⟩] [0] [])
   (.seq
   (.cond (.t 21)
    .skip
    (.exit 0) [0, 1, 18, 19, 20])
   (.seq
   (.block 1
    (.seq
    (.region [⟨some 22, .iadr 4 (.t 18) (.t 20), none⟩,
      ⟨some 23, .load (some 4) (.t 22), none⟩,
      ⟨some 7, .new 31 [(.int .i64 0), (.bool false), (.int .i64 0), (.int .i64 0)], none⟩,
      ⟨none, .store 4 (.t 7) (.t 23), none⟩] [0, 1, 2, 3] [])
    (.seq
    (.region [⟨some 24, .fadr 0 (.t 7), none⟩,
      ⟨some 25, .load none (.t 24), none⟩,
      ⟨some 26, .bin .lss (.t 25) (.k (.v (.one (.int .i64 0)))), none⟩,
      ⟨some 27, .mov (.t 26), none⟩,
      ⟨some 28, .fadr 0 (.t 7), some (27, false)⟩,
      ⟨some 29, .load none (.t 28), some (27, false)⟩,
      ⟨some 30, .mov (.t 0), some (27, false)⟩,
      ⟨some 31, .bin .geq (.t 29) (.t 30), some (27, false)⟩,
      ⟨some 32, .pick (.t 27) (.k (.v (.one (.bool true)))) (.t 31), none⟩] [0, 1, 2, 3, 4, 5, 6, 7, 8] [])
    (.cond (.t 32)
     (.seq
     (.region [⟨some 4, .mov (.k (.v (.one .nils))), none⟩,
       ⟨some 5, .mov (.k (.v (.one (.int .i64 4)))), none⟩] [0, 1] [])
     .ret)
     .skip [0, 1, 4, 5, 18, 19, 20]))))
   (.region [⟨some 33, .bin .add (.t 20) (.k (.v (.one (.int .i64 1)))), none⟩,
     ⟨some 20, .mov (.t 33), none⟩] [0, 1] [])))))))
 (.seq
 (.region [⟨some 34, .mov (.t 0), none⟩,
   ⟨some 35, .mks 26 3 24 [(.int .i64 0), (.int .i64 0), (.int .i64 0)] (.t 34) (.t 34), none⟩,
   ⟨some 8, .mov (.t 35), none⟩] [0, 1, 2] [])
 (.seq
 (.seq
 (.region [⟨some 36, .mov (.t 8), none⟩,
   ⟨some 37, .len (.t 36), none⟩,
   ⟨some 38, .mov (.k (.v (.one (.int .i64 0)))), none⟩] [0, 1, 2] [])
 (.block 2
  (.loop [1, 8, 37, 38]
   (.seq
   (.region [⟨some 39, .bin .lss (.t 38) (.t 37), none⟩] [0] [])
   (.seq
   (.cond (.t 39)
    .skip
    (.exit 2) [1, 8, 37, 38])
   (.seq
   (.block 3
    (.seq
    (.region [⟨some 40, .mov (.t 38), none⟩,
      ⟨some 9, .mov (.t 40), none⟩] [0, 1] [])
    (.region [⟨some 41, .mov (.t 8), none⟩,
      ⟨some 42, .mov (.t 9), none⟩,
      ⟨some 43, .iadr 3 (.t 41) (.t 42), none⟩,
      ⟨some 44, .fadr 0 (.t 43), none⟩,
      ⟨none, .store 1 (.t 44) (.k (.v (.one (.int .i64 0)))), none⟩] [0, 1, 2, 3, 4] [])))
   (.region [⟨some 45, .bin .add (.t 38) (.k (.v (.one (.int .i64 1)))), none⟩,
     ⟨some 38, .mov (.t 45), none⟩] [0, 1] [])))))))
 (.seq
 (.seq
 (.region [⟨some 46, .mov (.t 1), none⟩,
   ⟨some 47, .len (.t 46), none⟩,
   ⟨some 48, .mov (.k (.v (.one (.int .i64 0)))), none⟩] [0, 1, 2] [])
 (.block 4
  (.loop [8, 46, 47, 48]
   (.seq
   (.region [⟨some 49, .bin .lss (.t 48) (.t 47), none⟩] [0] [])
   (.seq
   (.cond (.t 49)
    .skip
    (.exit 4) [8, 46, 47, 48])
   (.seq
   (.block 5
    (.seq
    (.region [⟨some 50, .iadr 4 (.t 46) (.t 48), none⟩,
      ⟨some 51, .load (some 4) (.t 50), none⟩,
      ⟨some 11, .new 31 [(.int .i64 0), (.bool false), (.int .i64 0), (.int .i64 0)], none⟩,
      ⟨none, .store 4 (.t 11) (.t 51), none⟩] [0, 1, 2, 3] [])
    (.region [⟨some 52, .mov (.t 8), none⟩,
      ⟨some 53, .fadr 0 (.t 11), none⟩,
      ⟨some 54, .load none (.t 53), none⟩,
      ⟨some 55, .mov (.t 8), none⟩,
      ⟨some 56, .fadr 0 (.t 11), none⟩,
      ⟨some 57, .load none (.t 56), none⟩,
      ⟨some 58, .iadr 3 (.t 55) (.t 57), none⟩,
      ⟨some 59, .load (some 3) (.t 58), none⟩,
      ⟨some 60, .load (some 4) (.t 11), none⟩,
      ⟨some 61, .call 14 [(.t 59), (.t 60)], none⟩,
      ⟨some 62, .iadr 3 (.t 52) (.t 54), none⟩,
      ⟨none, .store 3 (.t 62) (.t 61), none⟩] [0, 1, 2, 3, 4, 5, 6, 7, 8, 9, 10, 11] [(9, [2])])))
   (.region [⟨some 63, .bin .add (.t 48) (.k (.v (.one (.int .i64 1)))), none⟩,
     ⟨some 48, .mov (.t 63), none⟩] [0, 1] [])))))))
 (.seq
 (.region [⟨some 64, .mov (.t 8), none⟩,
   ⟨some 4, .mov (.t 64), none⟩,
   ⟨some 5, .mov (.k (.v (.one (.int .i64 0)))), none⟩] [0, 1, 2] [])
 .ret)))))))⟩
theorem t23 : tell Try.prog Try.f23 [([0, 1, 4, 5], [], []), ([0, 1, 18, 19, 20], [], []), ([0, 1, 18, 19, 20], [], []), ([0, 1, 4, 5, 18, 19, 20], [], []), ([1, 8, 37, 38], [], []), ([1, 8, 37, 38], [], []), ([8, 46, 47, 48], [], []), ([8, 46, 47, 48], [], []), ([0, 1, 2, 3, 4, 5, 6, 7, 8, 9, 10, 11], [(9, [2])], [0, 0, 2, 0, 0, 16, 56, 120, 0, 504, 1023, 2047])] = some a23 := by kernel_rfl
theorem ok23 : FuncOk Try.prog 23 a23 := tell_ok Try.func23 t23

/-- railplan/railplanref30.Run -/
def a24 : AFunc := ⟨2, [4, 5], none,
 (.seq
 (.region [⟨some 4, .mov (.k (.v (.one .nils))), none⟩,
   ⟨some 5, .mov (.k (.v (.one (.int .i64 0)))), none⟩] [0, 1] [])
 (.seq
 (.seq
 (.region [⟨some 9, .mov (.t 0), none⟩,
   ⟨some 10, .bin .lss (.t 9) (.k (.v (.one (.int .i64 0)))), none⟩,
   ⟨some 11, .mov (.t 10), none⟩,
   ⟨some 12, .mov (.t 0), some (11, false)⟩,
   ⟨some 13, .bin .gtr (.t 12) (.k (.v (.one (.int .i64 144)))), some (11, false)⟩,
   ⟨some 14, .pick (.t 11) (.k (.v (.one (.bool true)))) (.t 13), none⟩] [0, 1, 2, 3, 4, 5] [])
 (.cond (.t 14)
  (.seq
  (.region [⟨some 4, .mov (.k (.v (.one .nils))), none⟩,
    ⟨some 5, .mov (.k (.v (.one (.int .i64 4)))), none⟩] [0, 1] [])
  .ret)
  .skip [0, 1, 4, 5]))
 (.seq
 (.region [⟨some 15, .mov (.t 0), none⟩,
   ⟨some 16, .mks 26 3 24 [(.int .i64 0), (.int .i64 0), (.int .i64 0)] (.t 15) (.t 15), none⟩,
   ⟨some 6, .mov (.t 16), none⟩] [0, 1, 2] [])
 (.seq
 (.seq
 (.region [⟨some 17, .mov (.t 1), none⟩,
   ⟨some 18, .len (.t 17), none⟩,
   ⟨some 19, .mov (.k (.v (.one (.int .i64 0)))), none⟩] [0, 1, 2] [])
 (.block 0
  (.loop [0, 6, 17, 18, 19]
   (.seq
   (.region [⟨some 20, .bin .lss (.t 19) (.t 18), none⟩] [0] [])
   (.seq
   (.cond (.t 20)
    .skip
    (.exit 0) [0, 6, 17, 18, 19])
   (.seq
   (.block 1
    (.seq
    (.region [⟨some 21, .iadr 4 (.t 17) (.t 19), none⟩,
      ⟨some 22, .load (some 4) (.t 21), none⟩,
      ⟨some 8, .new 31 [(.int .i64 0), (.bool false), (.int .i64 0), (.int .i64 0)], none⟩,
      ⟨none, .store 4 (.t 8) (.t 22), none⟩] [0, 1, 2, 3] [])
    (.seq
    (.seq
    (.region [⟨some 23, .fadr 0 (.t 8), none⟩,
      ⟨some 24, .load none (.t 23), none⟩,
      ⟨some 25, .bin .lss (.t 24) (.k (.v (.one (.int .i64 0)))), none⟩,
      ⟨some 26, .mov (.t 25), none⟩,
      ⟨some 27, .fadr 0 (.t 8), some (26, false)⟩,
      ⟨some 28, .load none (.t 27), some (26, false)⟩,
      ⟨some 29, .mov (.t 0), some (26, false)⟩,
      ⟨some 30, .bin .geq (.t 28) (.t 29), some (26, false)⟩,
      ⟨some 31, .pick (.t 26) (.k (.v (.one (.bool true)))) (.t 30), none⟩] [0, 1, 2, 3, 4, 5, 6, 7, 8] [])
    (.cond (.t 31)
     (.seq
     (.region [⟨some 4, .mov (.k (.v (.one .nils))), none⟩,
       ⟨some 5, .mov (.k (.v (.one (.int .i64 4)))), none⟩] [0, 1] [])
     .ret)
     .skip [0, 4, 5, 6, 8, 17, 18, 19]))
    (.region [⟨some 32, .mov (.t 6), none⟩,
      ⟨some 33, .fadr 0 (.t 8), none⟩,
      ⟨some 34, .load none (.t 33), none⟩,
      ⟨some 35, .mov (.t 6), none⟩,
      ⟨some 36, .fadr 0 (.t 8), none⟩,
      ⟨some 37, .load none (.t 36), none⟩,
      ⟨some 38, .iadr 3 (.t 35) (.t 37), none⟩,
      ⟨some 39, .load (some 3) (.t 38), none⟩,
      ⟨some 40, .load (some 4) (.t 8), none⟩,
      ⟨some 41, .call 19 [(.t 39), (.t 40)], none⟩,
      ⟨some 42, .iadr 3 (.t 32) (.t 34), none⟩,
      ⟨none, .store 3 (.t 42) (.t 41), none⟩] [0, 1, 2, 3, 4, 5, 6, 7, 8, 9, 10, 11] [(9, [2])]))))
   (.region [⟨some 43, .bin .add (.t 19) (.k (.v (.one (.int .i64 1)))), none⟩,
     ⟨some 19, .mov (.t 43), none⟩] [0, 1] [])))))))
 (.seq
 (.region [⟨some 44, .mov (.t 6), none⟩,
   ⟨some 4, .mov (.t 44), none⟩,
   ⟨some 5, .mov (.k (.v (.one (.int .i64 0)))), none⟩] [0, 1, 2] [])
 .ret)))))⟩
theorem t24 : tell Try.prog Try.f24 [([0, 1, 4, 5], [], []), ([0, 6, 17, 18, 19], [], []), ([0, 6, 17, 18, 19], [], []), ([0, 4, 5, 6, 8, 17, 18, 19], [], []), ([0, 1, 2, 3, 4, 5, 6, 7, 8, 9, 10, 11], [(9, [2])], [0, 0, 2, 0, 0, 16, 56, 120, 0, 504, 1023, 2047])] = some a24 := by kernel_rfl
theorem ok24 : FuncOk Try.prog 24 a24 := tell_ok Try.func24 t24

/-- railplan/railplankeep.Same[railplan/api.Counter] -/
def a25 : AFunc := ⟨2, [4], none,
 (.seq
 (.region [⟨some 4, .mov (.k (.v (.one (.bool false)))), none⟩] [0] [])
 (.seq
 (.seq
 (.region [⟨some 6, .mov (.t 0), none⟩,
   ⟨some 7, .len (.t 6), none⟩,
   ⟨some 8, .mov (.t 1), none⟩,
   ⟨some 9, .len (.t 8), none⟩,
   ⟨some 10, .bin .neq (.t 7) (.t 9), none⟩] [0, 1, 2, 3, 4] [])
 (.cond (.t 10)
  (.seq
  (.region [⟨some 4, .mov (.k (.v (.one (.bool false)))), none⟩] [0] [])
  .ret)
  .skip [0, 1, 4]))
 (.seq
 (.seq
 (.region [⟨some 11, .mov (.t 0), none⟩,
   ⟨some 12, .len (.t 11), none⟩,
   ⟨some 13, .mov (.k (.v (.one (.int .i64 0)))), none⟩] [0, 1, 2] [])
 (.block 0
  (.loop [0, 1, 12, 13]
   (.seq
   (.region [⟨some 14, .bin .lss (.t 13) (.t 12), none⟩] [0] [])
   (.seq
   (.cond (.t 14)
    .skip
    (.exit 0) [0, 1, 12, 13])
   (.seq
   (.block 1
    (.seq
    (.region [⟨some 15, .mov (.t 13), none⟩,
      ⟨some 5, .mov (.t 15), none⟩] [0, 1] [])
    (.seq
    (.region [⟨some 16, .mov (.t 0), none⟩,
      ⟨some 17, .mov (.t 5), none⟩,
      ⟨some 18, .iadr 3 (.t 16) (.t 17), none⟩,
      ⟨some 19, .load (some 3) (.t 18), none⟩,
      ⟨some 20, .mov (.t 1), none⟩,
      ⟨some 21, .mov (.t 5), none⟩,
      ⟨some 22, .iadr 3 (.t 20) (.t 21), none⟩,
      ⟨some 23, .load (some 3) (.t 22), none⟩,
      ⟨some 24, .eqs true [true, true, true] (.t 19) (.t 23), none⟩] [0, 1, 2, 3, 4, 5, 6, 7, 8] [])
    (.cond (.t 24)
     (.seq
     (.region [⟨some 4, .mov (.k (.v (.one (.bool false)))), none⟩] [0] [])
     .ret)
     .skip [0, 1, 4, 12, 13]))))
   (.region [⟨some 25, .bin .add (.t 13) (.k (.v (.one (.int .i64 1)))), none⟩,
     ⟨some 13, .mov (.t 25), none⟩] [0, 1] [])))))))
 (.seq
 (.region [⟨some 4, .mov (.k (.v (.one (.bool true)))), none⟩] [0] [])
 .ret))))⟩
theorem t25 : tell Try.prog Try.f25 [([0, 1, 4], [], []), ([0, 1, 12, 13], [], []), ([0, 1, 12, 13], [], []), ([0, 1, 2, 3, 4, 5, 6, 7, 8], [], [0, 0, 3, 7, 0, 0, 48, 112, 255]), ([0, 1, 4, 12, 13], [], [])] = some a25 := by kernel_rfl
theorem ok25 : FuncOk Try.prog 25 a25 := tell_ok Try.func25 t25

/-- railplan/detector.sound -/
def a26 : AFunc := ⟨1, [2], none,
 (.seq
 (.region [⟨some 1, .box 26 3 (.t 0), none⟩,
   ⟨some 2, .mov (.k (.v (.one (.bool false)))), none⟩] [0, 1] [])
 (.seq
 (.region [⟨some 3, .fadr 0 (.t 1), none⟩,
   ⟨some 4, .load none (.t 3), none⟩,
   ⟨some 5, .bin .eql (.t 4) (.k (.v (.one (.int .i64 0)))), none⟩,
   ⟨some 6, .mov (.t 5), none⟩,
   ⟨some 7, .fadr 0 (.t 1), some (6, false)⟩,
   ⟨some 8, .load none (.t 7), some (6, false)⟩,
   ⟨some 9, .bin .eql (.t 8) (.k (.v (.one (.int .i64 2)))), some (6, false)⟩,
   ⟨some 10, .pick (.t 6) (.k (.v (.one (.bool true)))) (.t 9), none⟩,
   ⟨some 11, .mov (.t 10), none⟩,
   ⟨some 12, .fadr 1 (.t 1), some (11, true)⟩,
   ⟨some 13, .load none (.t 12), some (11, true)⟩,
   ⟨some 14, .fadr 2 (.t 1), some (11, true)⟩,
   ⟨some 15, .load none (.t 14), some (11, true)⟩,
   ⟨some 16, .bin .eql (.t 13) (.t 15), some (11, true)⟩,
   ⟨some 17, .pick (.t 11) (.t 16) (.k (.v (.one (.bool false)))), none⟩,
   ⟨some 18, .mov (.t 17), none⟩,
   ⟨some 19, .fadr 1 (.t 1), some (18, true)⟩,
   ⟨some 20, .load none (.t 19), some (18, true)⟩,
   ⟨some 21, .bin .geq (.t 20) (.k (.v (.one (.int .i64 0)))), some (18, true)⟩,
   ⟨some 22, .pick (.t 18) (.t 21) (.k (.v (.one (.bool false)))), none⟩,
   ⟨some 23, .mov (.t 22), none⟩,
   ⟨some 24, .fadr 1 (.t 1), some (23, true)⟩,
   ⟨some 25, .load none (.t 24), some (23, true)⟩,
   ⟨some 26, .bin .leq (.t 25) (.k (.v (.one (.int .i64 1600)))), some (23, true)⟩,
   ⟨some 27, .pick (.t 23) (.t 26) (.k (.v (.one (.bool false)))), none⟩,
   ⟨some 2, .mov (.t 27), none⟩] [0, 1, 2, 3, 4, 5, 6, 7, 8, 9, 10, 11, 12, 13, 14, 15, 16, 17, 18, 19, 20, 21, 22, 23, 24, 25] [])
 .ret))⟩
theorem t26 : tell Try.prog Try.f26 [] = some a26 := by kernel_rfl
theorem ok26 : FuncOk Try.prog 26 a26 := tell_ok Try.func26 t26

/-- railplan/detector.clean -/
def a27 : AFunc := ⟨1, [2], none,
 (.seq
 (.region [⟨some 1, .box 31 4 (.t 0), none⟩,
   ⟨some 2, .mov (.k (.v (.one (.bool false)))), none⟩] [0, 1] [])
 (.seq
 (.region [⟨some 3, .fadr 2 (.t 1), none⟩,
   ⟨some 4, .load none (.t 3), none⟩,
   ⟨some 5, .fadr 3 (.t 1), none⟩,
   ⟨some 6, .load none (.t 5), none⟩,
   ⟨some 7, .bin .eql (.t 4) (.t 6), none⟩,
   ⟨some 8, .mov (.t 7), none⟩,
   ⟨some 9, .fadr 2 (.t 1), some (8, true)⟩,
   ⟨some 10, .load none (.t 9), some (8, true)⟩,
   ⟨some 11, .bin .geq (.t 10) (.k (.v (.one (.int .i64 1)))), some (8, true)⟩,
   ⟨some 12, .pick (.t 8) (.t 11) (.k (.v (.one (.bool false)))), none⟩,
   ⟨some 13, .mov (.t 12), none⟩,
   ⟨some 14, .fadr 2 (.t 1), some (13, true)⟩,
   ⟨some 15, .load none (.t 14), some (13, true)⟩,
   ⟨some 16, .bin .leq (.t 15) (.k (.v (.one (.int .i64 400)))), some (13, true)⟩,
   ⟨some 17, .pick (.t 13) (.t 16) (.k (.v (.one (.bool false)))), none⟩,
   ⟨some 2, .mov (.t 17), none⟩] [0, 1, 2, 3, 4, 5, 6, 7, 8, 9, 10, 11, 12, 13, 14, 15] [])
 .ret))⟩
theorem t27 : tell Try.prog Try.f27 [] = some a27 := by kernel_rfl
theorem ok27 : FuncOk Try.prog 27 a27 := tell_ok Try.func27 t27

/-- railplan/railplanref30.sound -/
def a28 : AFunc := ⟨1, [2], none,
 (.seq
 (.region [⟨some 1, .box 26 3 (.t 0), none⟩,
   ⟨some 2, .mov (.k (.v (.one (.bool false)))), none⟩] [0, 1] [])
 (.seq
 (.region [⟨some 3, .fadr 0 (.t 1), none⟩,
   ⟨some 4, .load none (.t 3), none⟩,
   ⟨some 5, .bin .eql (.t 4) (.k (.v (.one (.int .i64 0)))), none⟩,
   ⟨some 6, .mov (.t 5), none⟩,
   ⟨some 7, .fadr 0 (.t 1), some (6, false)⟩,
   ⟨some 8, .load none (.t 7), some (6, false)⟩,
   ⟨some 9, .bin .eql (.t 8) (.k (.v (.one (.int .i64 2)))), some (6, false)⟩,
   ⟨some 10, .pick (.t 6) (.k (.v (.one (.bool true)))) (.t 9), none⟩,
   ⟨some 11, .mov (.t 10), none⟩,
   ⟨some 12, .fadr 1 (.t 1), some (11, true)⟩,
   ⟨some 13, .load none (.t 12), some (11, true)⟩,
   ⟨some 14, .fadr 2 (.t 1), some (11, true)⟩,
   ⟨some 15, .load none (.t 14), some (11, true)⟩,
   ⟨some 16, .bin .eql (.t 13) (.t 15), some (11, true)⟩,
   ⟨some 17, .pick (.t 11) (.t 16) (.k (.v (.one (.bool false)))), none⟩,
   ⟨some 18, .mov (.t 17), none⟩,
   ⟨some 19, .fadr 1 (.t 1), some (18, true)⟩,
   ⟨some 20, .load none (.t 19), some (18, true)⟩,
   ⟨some 21, .bin .geq (.t 20) (.k (.v (.one (.int .i64 0)))), some (18, true)⟩,
   ⟨some 22, .pick (.t 18) (.t 21) (.k (.v (.one (.bool false)))), none⟩,
   ⟨some 23, .mov (.t 22), none⟩,
   ⟨some 24, .fadr 1 (.t 1), some (23, true)⟩,
   ⟨some 25, .load none (.t 24), some (23, true)⟩,
   ⟨some 26, .bin .leq (.t 25) (.k (.v (.one (.int .i64 1600)))), some (23, true)⟩,
   ⟨some 27, .pick (.t 23) (.t 26) (.k (.v (.one (.bool false)))), none⟩,
   ⟨some 2, .mov (.t 27), none⟩] [0, 1, 2, 3, 4, 5, 6, 7, 8, 9, 10, 11, 12, 13, 14, 15, 16, 17, 18, 19, 20, 21, 22, 23, 24, 25] [])
 .ret))⟩
theorem t28 : tell Try.prog Try.f28 [] = some a28 := by kernel_rfl
theorem ok28 : FuncOk Try.prog 28 a28 := tell_ok Try.func28 t28

end Go.Proofs.Ytellgcahkpaldaa.Fn
