/- Functions of the program, as the abstract machine's, and that they are. Conditions: none. -/
import Derived.Test.YtellgcahkpaldaaAmCo
import Derived.Test.YtellgcahkpaldaaProg
set_option linter.unusedVariables false
namespace Go.Proofs.Ytellgcahkpaldaa.Fn
open Go Go.Am
set_option maxRecDepth 100000
/-- railplan/railplanlaw31.DetectorExact -/
def a3 : AFunc := ⟨1, [2], none,
 (.seq
 (.region [⟨some 2, .mov (.k (.v (.one (.bool false)))), none⟩] [0] [])
 (.seq
 (.region [⟨some 9, .mov (.t 0), none⟩,
   ⟨some 10, .call 11 [(.t 9)], none⟩,
   ⟨some 3, .mov (.t 10), none⟩] [0, 1, 2] [])
 (.seq
 (.region [⟨some 11, .build [(.int .i64 0), (.int .i64 0), (.int .i64 0)] [], none⟩,
   ⟨some 4, .new 26 [(.int .i64 0), (.int .i64 0), (.int .i64 0)], none⟩,
   ⟨none, .store 3 (.t 4) (.t 11), none⟩] [0, 1, 2] [])
 (.seq
 (.region [⟨some 5, .mov (.k (.v (.one (.int .i64 0)))), none⟩] [0] [])
 (.seq
 (.block 0
  (.loop [3, 4, 5]
   (.seq
   (.seq
   (.region [⟨some 12, .mov (.t 3), none⟩,
     ⟨some 13, .call 12 [(.t 12)], none⟩] [0, 1] [])
   (.cond (.t 13)
    .skip
    (.exit 0) [3, 4, 5]))
   (.block 1
    (.seq
    (.region [⟨some 14, .mov (.t 3), none⟩,
      ⟨some 15, .call 13 [(.t 14), (.k (.v (.one (.int .i64 9))))], none⟩,
      ⟨some 16, .bin .add (.k (.v (.one (.int .i64 1)))) (.t 15), none⟩,
      ⟨some 6, .mov (.t 16), none⟩] [0, 1, 2, 3] [])
    (.seq
    (.region [⟨some 17, .mov (.t 5), none⟩,
      ⟨some 18, .mov (.t 6), none⟩,
      ⟨some 19, .bin .lss (.t 17) (.t 18), none⟩,
      ⟨some 20, .mov (.t 19), none⟩,
      ⟨some 21, .mov (.t 3), some (20, false)⟩,
      ⟨some 22, .call 13 [(.t 21), (.k (.v (.one (.int .i64 2))))], some (20, false)⟩,
      ⟨some 23, .bin .eql (.t 22) (.k (.v (.one (.int .i64 0)))), some (20, false)⟩,
      ⟨some 24, .mov (.t 23), some (20, false)⟩,
      ⟨some 25, .mov (.t 5), some (24, true)⟩,
      ⟨some 26, .bin .lss (.t 25) (.k (.v (.one (.int .i64 1590)))), some (24, true)⟩,
      ⟨some 27, .pick (.t 24) (.t 26) (.k (.v (.one (.bool false)))), some (20, false)⟩,
      ⟨some 28, .pick (.t 20) (.k (.v (.one (.bool true)))) (.t 27), none⟩,
      ⟨some 7, .mov (.t 28), none⟩] [0, 1, 2, 3, 4, 5, 6, 7, 8, 9, 10, 11, 12] [])
    (.seq
    (.seq
    (.region [⟨some 29, .mov (.t 7), none⟩] [0] [])
    (.cond (.t 29)
     (.region [⟨some 30, .mov (.t 5), none⟩,
       ⟨some 31, .mov (.t 6), none⟩,
       ⟨some 32, .bin .add (.t 30) (.t 31), none⟩,
       ⟨some 5, .mov (.t 32), none⟩] [0, 1, 2, 3] [])
     (.region [⟨some 33, .mov (.t 5), none⟩,
       ⟨some 34, .mov (.t 6), none⟩,
       ⟨some 35, .bin .sub (.t 33) (.t 34), none⟩,
       ⟨some 5, .mov (.t 35), none⟩] [0, 1, 2, 3] []) [3, 4, 5, 6, 7]))
    (.seq
    (.region [⟨some 36, .load (some 3) (.t 4), none⟩,
      ⟨some 37, .mov (.t 7), none⟩,
      ⟨some 38, .mov (.t 6), none⟩,
      ⟨some 39, .mov (.t 6), none⟩,
      ⟨some 40, .build [(.int .i64 0), (.bool false), (.int .i64 0), (.int .i64 0)] [(1, 1, (.t 37)), (2, 1, (.t 38)), (3, 1, (.t 39))], none⟩,
      ⟨some 41, .call 14 [(.t 36), (.t 40)], none⟩,
      ⟨none, .store 3 (.t 4) (.t 41), none⟩] [0, 1, 2, 3, 4, 5, 6] [])
    (.seq
    (.region [⟨some 8, .mov (.k (.v (.one (.int .i64 1)))), none⟩] [0] [])
    (.seq
    (.seq
    (.region [⟨some 42, .mov (.t 5), none⟩,
      ⟨some 43, .bin .eql (.t 42) (.k (.v (.one (.int .i64 0)))), none⟩] [0, 1] [])
    (.cond (.t 43)
     (.region [⟨some 8, .mov (.k (.v (.one (.int .i64 0)))), none⟩] [0] [])
     .skip [3, 4, 5, 8]))
    (.seq
    (.region [⟨some 44, .load (some 3) (.t 4), none⟩,
      ⟨some 45, .call 15 [(.t 44)], none⟩,
      ⟨some 46, .mov (.t 8), none⟩,
      ⟨some 47, .bin .neq (.t 45) (.t 46), none⟩,
      ⟨some 48, .mov (.t 47), none⟩,
      ⟨some 49, .load (some 3) (.t 4), some (48, false)⟩,
      ⟨some 50, .mov (.t 5), some (48, false)⟩,
      ⟨some 51, .mov (.t 5), some (48, false)⟩,
      ⟨some 52, .build [(.int .i64 0), (.int .i64 0), (.int .i64 0)] [(1, 1, (.t 50)), (2, 1, (.t 51))], some (48, false)⟩,
      ⟨some 53, .eqs true [true, true, true] (.t 49) (.t 52), some (48, false)⟩,
      ⟨some 54, .pick (.t 48) (.k (.v (.one (.bool true)))) (.t 53), none⟩] [0, 1, 2, 3, 4, 5, 6, 7, 8, 9, 10] [])
    (.cond (.t 54)
     (.seq
     (.region [⟨some 2, .mov (.k (.v (.one (.bool false)))), none⟩] [0] [])
     .ret)
     .skip [2, 3, 4, 5]))))))))))))
 (.seq
 (.region [⟨some 55, .call 16 [], none⟩,
   ⟨some 2, .mov (.t 55), none⟩] [0, 1] [])
 .ret))))))⟩
theorem t3 : tell Try.prog Try.f3 [([3, 4, 5], [], []), ([3, 4, 5], [], []), ([3, 4, 5, 6, 7], [], []), ([3, 4, 5, 8], [], []), ([2, 3, 4, 5], [], [])] = some a3 := by kernel_rfl
theorem ok3 : FuncOk Try.prog 3 a3 := tell_ok Try.func3 t3

/-- railplan/railplanlaw31.DetectorLimits -/
def a4 : AFunc := ⟨2, [4], none,
 (.seq
 (.region [⟨some 4, .mov (.k (.v (.one (.bool false)))), none⟩] [0] [])
 (.seq
 (.region [⟨some 11, .mov (.t 0), none⟩,
   ⟨some 12, .call 17 [(.t 11), (.k (.v (.one (.int .i64 1601))))], none⟩,
   ⟨some 13, .mov (.t 1), none⟩,
   ⟨some 14, .call 17 [(.t 13), (.k (.v (.one (.int .i64 400))))], none⟩,
   ⟨some 15, .bin .add (.k (.v (.one (.int .i64 1)))) (.t 14), none⟩,
   ⟨some 5, .mov (.t 12), none⟩,
   ⟨some 6, .mov (.t 15), none⟩] [0, 1, 2, 3, 4, 5, 6] [])
 (.seq
 (.region [⟨some 16, .mov (.t 5), none⟩,
   ⟨some 17, .mov (.t 5), none⟩,
   ⟨some 18, .build [(.int .i64 0), (.int .i64 0), (.int .i64 0)] [(1, 1, (.t 16)), (2, 1, (.t 17))], none⟩,
   ⟨some 7, .new 26 [(.int .i64 0), (.int .i64 0), (.int .i64 0)], none⟩,
   ⟨none, .store 3 (.t 7) (.t 18), none⟩] [0, 1, 2, 3, 4] [])
 (.seq
 (.region [⟨some 19, .load (some 3) (.t 7), none⟩,
   ⟨some 20, .mov (.t 6), none⟩,
   ⟨some 21, .mov (.t 6), none⟩,
   ⟨some 22, .build [(.int .i64 0), (.bool false), (.int .i64 0), (.int .i64 0)] [(1, 1, (.k (.v (.one (.bool true))))), (2, 1, (.t 20)), (3, 1, (.t 21))], none⟩,
   ⟨some 23, .call 14 [(.t 19), (.t 22)], none⟩,
   ⟨some 8, .new 26 [(.int .i64 0), (.int .i64 0), (.int .i64 0)], none⟩,
   ⟨none, .store 3 (.t 8) (.t 23), none⟩] [0, 1, 2, 3, 4, 5, 6] [])
 (.seq
 (.region [⟨some 24, .load (some 3) (.t 7), none⟩,
   ⟨some 25, .mov (.t 6), none⟩,
   ⟨some 26, .mov (.t 6), none⟩,
   ⟨some 27, .build [(.int .i64 0), (.bool false), (.int .i64 0), (.int .i64 0)] [(2, 1, (.t 25)), (3, 1, (.t 26))], none⟩,
   ⟨some 28, .call 14 [(.t 24), (.t 27)], none⟩,
   ⟨some 9, .new 26 [(.int .i64 0), (.int .i64 0), (.int .i64 0)], none⟩,
   ⟨none, .store 3 (.t 9) (.t 28), none⟩] [0, 1, 2, 3, 4, 5, 6] [])
 (.seq
 (.region [⟨some 29, .build [(.int .i64 0), (.int .i64 0), (.int .i64 0)] [(0, 1, (.k (.v (.one (.int .i64 1)))))], none⟩,
   ⟨some 10, .new 26 [(.int .i64 0), (.int .i64 0), (.int .i64 0)], none⟩,
   ⟨none, .store 3 (.t 10) (.t 29), none⟩] [0, 1, 2] [])
 (.seq
 (.seq
 (.region [⟨some 30, .mov (.t 5), none⟩,
   ⟨some 31, .mov (.t 6), none⟩,
   ⟨some 32, .bin .add (.t 30) (.t 31), none⟩,
   ⟨some 33, .bin .gtr (.t 32) (.k (.v (.one (.int .i64 1600)))), none⟩,
   ⟨some 34, .mov (.t 33), none⟩,
   ⟨some 35, .load (some 3) (.t 8), some (34, true)⟩,
   ⟨some 36, .load (some 3) (.t 10), some (34, true)⟩,
   ⟨some 37, .eqs true [true, true, true] (.t 35) (.t 36), some (34, true)⟩,
   ⟨some 38, .pick (.t 34) (.t 37) (.k (.v (.one (.bool false)))), none⟩,
   ⟨some 39, .mov (.t 38), none⟩,
   ⟨some 40, .mov (.t 5), some (39, false)⟩,
   ⟨some 41, .mov (.t 6), some (39, false)⟩,
   ⟨some 42, .bin .add (.t 40) (.t 41), some (39, false)⟩,
   ⟨some 43, .bin .leq (.t 42) (.k (.v (.one (.int .i64 1600)))), some (39, false)⟩,
   ⟨some 44, .mov (.t 43), some (39, false)⟩,
   ⟨some 45, .load (some 3) (.t 8), some (44, true)⟩,
   ⟨some 46, .mov (.t 5), some (44, true)⟩,
   ⟨some 47, .mov (.t 6), some (44, true)⟩,
   ⟨some 48, .bin .add (.t 46) (.t 47), some (44, true)⟩,
   ⟨some 49, .mov (.t 5), some (44, true)⟩,
   ⟨some 50, .mov (.t 6), some (44, true)⟩,
   ⟨some 51, .bin .add (.t 49) (.t 50), some (44, true)⟩,
   ⟨some 52, .build [(.int .i64 0), (.int .i64 0), (.int .i64 0)] [(1, 1, (.t 48)), (2, 1, (.t 51))], some (44, true)⟩,
   ⟨some 53, .eqs true [true, true, true] (.t 45) (.t 52), some (44, true)⟩,
   ⟨some 54, .pick (.t 44) (.t 53) (.k (.v (.one (.bool false)))), some (39, false)⟩,
   ⟨some 55, .pick (.t 39) (.k (.v (.one (.bool true)))) (.t 54), none⟩] [0, 1, 2, 3, 4, 5, 6, 7, 8, 9, 10, 11, 12, 13, 14, 15, 16, 17, 18, 19, 20, 21, 22, 23, 24, 25] [])
 (.cond (.t 55)
  (.seq
  (.region [⟨some 4, .mov (.k (.v (.one (.bool false)))), none⟩] [0] [])
  .ret)
  .skip [4, 5, 6, 9, 10]))
 (.seq
 (.region [⟨some 56, .call 16 [], none⟩,
   ⟨some 57, .mov (.t 56), none⟩,
   ⟨some 58, .mov (.t 5), some (57, true)⟩,
   ⟨some 59, .mov (.t 6), some (57, true)⟩,
   ⟨some 60, .bin .lss (.t 58) (.t 59), some (57, true)⟩,
   ⟨some 61, .mov (.t 60), some (57, true)⟩,
   ⟨some 62, .load (some 3) (.t 9), some (61, true)⟩,
   ⟨some 63, .load (some 3) (.t 10), some (61, true)⟩,
   ⟨some 64, .eqs false [true, true, true] (.t 62) (.t 63), some (61, true)⟩,
   ⟨some 65, .pick (.t 61) (.t 64) (.k (.v (.one (.bool false)))), some (57, true)⟩,
   ⟨some 66, .mov (.t 65), some (57, true)⟩,
   ⟨some 67, .mov (.t 5), some (66, false)⟩,
   ⟨some 68, .mov (.t 6), some (66, false)⟩,
   ⟨some 69, .bin .geq (.t 67) (.t 68), some (66, false)⟩,
   ⟨some 70, .mov (.t 69), some (66, false)⟩,
   ⟨some 71, .load (some 3) (.t 9), some (70, true)⟩,
   ⟨some 72, .mov (.t 5), some (70, true)⟩,
   ⟨some 73, .mov (.t 6), some (70, true)⟩,
   ⟨some 74, .bin .sub (.t 72) (.t 73), some (70, true)⟩,
   ⟨some 75, .mov (.t 5), some (70, true)⟩,
   ⟨some 76, .mov (.t 6), some (70, true)⟩,
   ⟨some 77, .bin .sub (.t 75) (.t 76), some (70, true)⟩,
   ⟨some 78, .build [(.int .i64 0), (.int .i64 0), (.int .i64 0)] [(1, 1, (.t 74)), (2, 1, (.t 77))], some (70, true)⟩,
   ⟨some 79, .eqs false [true, true, true] (.t 71) (.t 78), some (70, true)⟩,
   ⟨some 80, .pick (.t 70) (.t 79) (.k (.v (.one (.bool false)))), some (66, false)⟩,
   ⟨some 81, .pick (.t 66) (.k (.v (.one (.bool true)))) (.t 80), some (57, true)⟩,
   ⟨some 82, .pick (.t 57) (.t 81) (.k (.v (.one (.bool false)))), none⟩,
   ⟨some 4, .mov (.t 82), none⟩] [0, 1, 2, 3, 4, 5, 6, 7, 8, 9, 10, 11, 12, 13, 14, 15, 16, 17, 18, 19, 20, 21, 22, 23, 24, 25, 26, 27] [])
 .ret))))))))⟩
theorem t4 : tell Try.prog Try.f4 [([4, 5, 6, 9, 10], [], [])] = some a4 := by kernel_rfl
theorem ok4 : FuncOk Try.prog 4 a4 := tell_ok Try.func4 t4

/-- railplan/railplanlaw31.DetectorExample -/
def a5 : AFunc := ⟨0, [0], none,
 (.seq
 (.region [⟨some 0, .mov (.k (.v (.one (.bool false)))), none⟩] [0] [])
 (.seq
 (.region [⟨some 4, .build [(.int .i64 0), (.int .i64 0), (.int .i64 0)] [(0, 1, (.k (.v (.one (.int .i64 1)))))], none⟩,
   ⟨some 5, .call 18 [(.t 4)], none⟩,
   ⟨some 1, .new 26 [(.int .i64 0), (.int .i64 0), (.int .i64 0)], none⟩,
   ⟨none, .store 3 (.t 1) (.t 5), none⟩] [0, 1, 2, 3] [])
 (.seq
 (.region [⟨some 6, .load (some 3) (.t 1), none⟩,
   ⟨some 7, .build [(.int .i64 0), (.bool false), (.int .i64 0), (.int .i64 0)] [(1, 1, (.k (.v (.one (.bool true))))), (2, 1, (.k (.v (.one (.int .i64 2))))), (3, 1, (.k (.v (.one (.int .i64 2)))))], none⟩,
   ⟨some 8, .call 14 [(.t 6), (.t 7)], none⟩,
   ⟨some 2, .new 26 [(.int .i64 0), (.int .i64 0), (.int .i64 0)], none⟩,
   ⟨none, .store 3 (.t 2) (.t 8), none⟩] [0, 1, 2, 3, 4] [])
 (.seq
 (.region [⟨some 9, .load (some 3) (.t 2), none⟩,
   ⟨some 10, .build [(.int .i64 0), (.bool false), (.int .i64 0), (.int .i64 0)] [(2, 1, (.k (.v (.one (.int .i64 2))))), (3, 1, (.k (.v (.one (.int .i64 2)))))], none⟩,
   ⟨some 11, .call 14 [(.t 9), (.t 10)], none⟩,
   ⟨some 3, .new 26 [(.int .i64 0), (.int .i64 0), (.int .i64 0)], none⟩,
   ⟨none, .store 3 (.t 3) (.t 11), none⟩] [0, 1, 2, 3, 4] [])
 (.seq
 (.region [⟨some 12, .call 16 [], none⟩,
   ⟨some 13, .mov (.t 12), none⟩,
   ⟨some 14, .load (some 3) (.t 1), some (13, true)⟩,
   ⟨some 15, .call 15 [(.t 14)], some (13, true)⟩,
   ⟨some 16, .bin .eql (.t 15) (.k (.v (.one (.int .i64 2)))), some (13, true)⟩,
   ⟨some 17, .pick (.t 13) (.t 16) (.k (.v (.one (.bool false)))), none⟩,
   ⟨some 18, .mov (.t 17), none⟩,
   ⟨some 19, .load (some 3) (.t 2), some (18, true)⟩,
   ⟨some 20, .call 15 [(.t 19)], some (18, true)⟩,
   ⟨some 21, .bin .eql (.t 20) (.k (.v (.one (.int .i64 2)))), some (18, true)⟩,
   ⟨some 22, .pick (.t 18) (.t 21) (.k (.v (.one (.bool false)))), none⟩,
   ⟨some 23, .mov (.t 22), none⟩,
   ⟨some 24, .load (some 3) (.t 3), some (23, true)⟩,
   ⟨some 25, .call 15 [(.t 24)], some (23, true)⟩,
   ⟨some 26, .bin .eql (.t 25) (.k (.v (.one (.int .i64 0)))), some (23, true)⟩,
   ⟨some 27, .pick (.t 23) (.t 26) (.k (.v (.one (.bool false)))), none⟩,
   ⟨some 28, .mov (.t 27), none⟩,
   ⟨some 29, .load (some 3) (.t 3), some (28, true)⟩,
   ⟨some 30, .build [(.int .i64 0), (.int .i64 0), (.int .i64 0)] [], some (28, true)⟩,
   ⟨some 31, .eqs false [true, true, true] (.t 29) (.t 30), some (28, true)⟩,
   ⟨some 32, .pick (.t 28) (.t 31) (.k (.v (.one (.bool false)))), none⟩,
   ⟨some 0, .mov (.t 32), none⟩] [0, 1, 2, 3, 4, 5, 6, 7, 8, 9, 10, 11, 12, 13, 14, 15, 16, 17, 18, 19, 20, 21] [])
 .ret)))))⟩
theorem t5 : tell Try.prog Try.f5 [] = some a5 := by kernel_rfl
theorem ok5 : FuncOk Try.prog 5 a5 := tell_ok Try.func5 t5

/-- railplan/railplanlaw31.DetectorSmall -/
def a6 : AFunc := ⟨6, [12], none,
 (.seq
 (.region [⟨some 12, .mov (.k (.v (.one (.bool false)))), none⟩] [0] [])
 (.seq
 (.region [⟨some 15, .mov (.t 0), none⟩,
   ⟨some 16, .call 17 [(.t 15), (.k (.v (.one (.int .i64 4))))], none⟩,
   ⟨some 17, .mov (.t 1), none⟩,
   ⟨some 18, .call 17 [(.t 17), (.k (.v (.one (.int .i64 5))))], none⟩,
   ⟨some 19, .mov (.t 2), none⟩,
   ⟨some 20, .call 17 [(.t 19), (.k (.v (.one (.int .i64 5))))], none⟩,
   ⟨some 21, .build [(.int .i64 0), (.int .i64 0), (.int .i64 0)] [(0, 1, (.t 16)), (1, 1, (.t 18)), (2, 1, (.t 20))], none⟩,
   ⟨some 13, .new 26 [(.int .i64 0), (.int .i64 0), (.int .i64 0)], none⟩,
   ⟨none, .store 3 (.t 13) (.t 21), none⟩] [0, 1, 2, 3, 4, 5, 6, 7, 8] [])
 (.seq
 (.seq
 (.region [⟨some 22, .mov (.t 1), none⟩,
   ⟨some 23, .bin .quo (.t 22) (.k (.v (.one (.int .i64 5)))), none⟩,
   ⟨some 24, .call 17 [(.t 23), (.k (.v (.one (.int .i64 3))))], none⟩,
   ⟨some 25, .bin .gtr (.t 24) (.k (.v (.one (.int .i64 0)))), none⟩] [0, 1, 2, 3] [])
 (.cond (.t 25)
  (.region [⟨some 26, .fadr 1 (.t 13), none⟩,
    ⟨some 27, .load none (.t 26), none⟩,
    ⟨some 28, .fadr 2 (.t 13), none⟩,
    ⟨none, .store 1 (.t 28) (.t 27), none⟩] [0, 1, 2, 3] [])
  .skip [3, 4, 5, 13]))
 (.seq
 (.region [⟨some 29, .mov (.t 5), none⟩,
   ⟨some 30, .mov (.t 3), none⟩,
   ⟨some 31, .call 17 [(.t 30), (.k (.v (.one (.int .i64 5))))], none⟩,
   ⟨some 32, .mov (.t 4), none⟩,
   ⟨some 33, .call 17 [(.t 32), (.k (.v (.one (.int .i64 5))))], none⟩,
   ⟨some 34, .build [(.int .i64 0), (.bool false), (.int .i64 0), (.int .i64 0)] [(1, 1, (.t 29)), (2, 1, (.t 31)), (3, 1, (.t 33))], none⟩,
   ⟨some 14, .new 31 [(.int .i64 0), (.bool false), (.int .i64 0), (.int .i64 0)], none⟩,
   ⟨none, .store 4 (.t 14) (.t 34), none⟩] [0, 1, 2, 3, 4, 5, 6, 7] [])
 (.seq
 (.seq
 (.region [⟨some 35, .mov (.t 3), none⟩,
   ⟨some 36, .bin .quo (.t 35) (.k (.v (.one (.int .i64 5)))), none⟩,
   ⟨some 37, .call 17 [(.t 36), (.k (.v (.one (.int .i64 3))))], none⟩,
   ⟨some 38, .bin .gtr (.t 37) (.k (.v (.one (.int .i64 0)))), none⟩] [0, 1, 2, 3] [])
 (.cond (.t 38)
  (.region [⟨some 39, .fadr 2 (.t 14), none⟩,
    ⟨some 40, .load none (.t 39), none⟩,
    ⟨some 41, .fadr 3 (.t 14), none⟩,
    ⟨none, .store 1 (.t 41) (.t 40), none⟩] [0, 1, 2, 3] [])
  .skip [13, 14]))
 (.seq
 (.region [⟨some 42, .call 16 [], none⟩,
   ⟨some 43, .mov (.t 42), none⟩,
   ⟨some 44, .load (some 3) (.t 13), some (43, true)⟩,
   ⟨some 45, .load (some 4) (.t 14), some (43, true)⟩,
   ⟨some 46, .call 14 [(.t 44), (.t 45)], some (43, true)⟩,
   ⟨some 47, .load (some 3) (.t 13), some (43, true)⟩,
   ⟨some 48, .load (some 4) (.t 14), some (43, true)⟩,
   ⟨some 49, .call 19 [(.t 47), (.t 48)], some (43, true)⟩,
   ⟨some 50, .eqs false [true, true, true] (.t 46) (.t 49), some (43, true)⟩,
   ⟨some 51, .pick (.t 43) (.t 50) (.k (.v (.one (.bool false)))), none⟩,
   ⟨some 52, .mov (.t 51), none⟩,
   ⟨some 53, .load (some 3) (.t 13), some (52, true)⟩,
   ⟨some 54, .call 15 [(.t 53)], some (52, true)⟩,
   ⟨some 55, .load (some 3) (.t 13), some (52, true)⟩,
   ⟨some 56, .call 20 [(.t 55)], some (52, true)⟩,
   ⟨some 57, .bin .eql (.t 54) (.t 56), some (52, true)⟩,
   ⟨some 58, .pick (.t 52) (.t 57) (.k (.v (.one (.bool false)))), none⟩,
   ⟨some 59, .mov (.t 58), none⟩,
   ⟨some 60, .load (some 3) (.t 13), some (59, true)⟩,
   ⟨some 61, .call 18 [(.t 60)], some (59, true)⟩,
   ⟨some 62, .load (some 3) (.t 13), some (59, true)⟩,
   ⟨some 63, .call 21 [(.t 62)], some (59, true)⟩,
   ⟨some 64, .eqs false [true, true, true] (.t 61) (.t 63), some (59, true)⟩,
   ⟨some 65, .pick (.t 59) (.t 64) (.k (.v (.one (.bool false)))), none⟩,
   ⟨some 12, .mov (.t 65), none⟩] [0, 1, 2, 3, 5, 6, 4, 7, 8, 9, 10, 11, 13, 12, 14, 15, 16, 17, 18, 20, 19, 21, 22, 23, 24] [(4, [5, 6]), (12, [13]), (19, [20])])
 .ret))))))⟩
theorem t6 : tell Try.prog Try.f6 [([3, 4, 5, 13], [], []), ([13, 14], [], []), ([0, 1, 2, 3, 5, 6, 4, 7, 8, 9, 10, 11, 13, 12, 14, 15, 16, 17, 18, 20, 19, 21, 22, 23, 24], [(4, [5, 6]), (12, [13]), (19, [20])], [0, 1, 3, 3, 15, 3, 3, 127, 255, 511, 1023, 2047, 4095, 2047, 16383, 32767, 65535, 131071, 262143, 524287, 262143, 2097151, 4194303, 8388607, 16777215])] = some a6 := by kernel_rfl
theorem ok6 : FuncOk Try.prog 6 a6 := tell_ok Try.func6 t6

/-- railplan/railplanlaw31.DetectorSafe -/
def a7 : AFunc := ⟨1, [2], none,
 (.seq
 (.region [⟨some 2, .mov (.k (.v (.one (.bool false)))), none⟩] [0] [])
 (.seq
 (.region [⟨some 9, .mov (.t 0), none⟩,
   ⟨some 10, .call 11 [(.t 9)], none⟩,
   ⟨some 3, .mov (.t 10), none⟩] [0, 1, 2] [])
 (.seq
 (.region [⟨some 11, .build [(.int .i64 0), (.int .i64 0), (.int .i64 0)] [], none⟩,
   ⟨some 4, .new 26 [(.int .i64 0), (.int .i64 0), (.int .i64 0)], none⟩,
   ⟨none, .store 3 (.t 4) (.t 11), none⟩] [0, 1, 2] [])
 (.seq
 (.region [⟨some 5, .mov (.k (.v (.one (.int .i64 0)))), none⟩] [0] [])
 (.seq
 (.block 0
  (.loop [3, 4, 5]
   (.seq
   (.seq
   (.region [⟨some 12, .mov (.t 3), none⟩,
     ⟨some 13, .call 12 [(.t 12)], none⟩] [0, 1] [])
   (.cond (.t 13)
    .skip
    (.exit 0) [3, 4, 5]))
   (.block 1
    (.seq
    (.region [⟨some 14, .mov (.t 3), none⟩,
      ⟨some 15, .call 13 [(.t 14), (.k (.v (.one (.int .i64 4))))], none⟩,
      ⟨some 16, .bin .add (.k (.v (.one (.int .i64 1)))) (.t 15), none⟩,
      ⟨some 6, .mov (.t 16), none⟩] [0, 1, 2, 3] [])
    (.seq
    (.region [⟨some 17, .mov (.t 5), none⟩,
      ⟨some 18, .mov (.t 6), none⟩,
      ⟨some 19, .bin .lss (.t 17) (.t 18), none⟩,
      ⟨some 20, .mov (.t 19), none⟩,
      ⟨some 21, .mov (.t 3), some (20, false)⟩,
      ⟨some 22, .call 13 [(.t 21), (.k (.v (.one (.int .i64 2))))], some (20, false)⟩,
      ⟨some 23, .bin .eql (.t 22) (.k (.v (.one (.int .i64 0)))), some (20, false)⟩,
      ⟨some 24, .pick (.t 20) (.k (.v (.one (.bool true)))) (.t 23), none⟩,
      ⟨some 7, .mov (.t 24), none⟩] [0, 1, 2, 3, 4, 5, 6, 7, 8] [])
    (.seq
    (.region [⟨some 25, .mov (.t 7), none⟩,
      ⟨some 26, .mov (.t 6), none⟩,
      ⟨some 27, .mov (.t 6), none⟩,
      ⟨some 28, .build [(.int .i64 0), (.bool false), (.int .i64 0), (.int .i64 0)] [(1, 1, (.t 25)), (2, 1, (.t 26)), (3, 1, (.t 27))], none⟩,
      ⟨some 8, .new 31 [(.int .i64 0), (.bool false), (.int .i64 0), (.int .i64 0)], none⟩,
      ⟨none, .store 4 (.t 8) (.t 28), none⟩] [0, 1, 2, 3, 4, 5] [])
    (.seq
    (.seq
    (.region [⟨some 29, .mov (.t 3), none⟩,
      ⟨some 30, .call 13 [(.t 29), (.k (.v (.one (.int .i64 8))))], none⟩] [0, 1] [])
    (.block 2
     (.seq
     (.region [⟨some 32, .bin .eql (.t 30) (.k (.v (.one (.int .i64 0)))), none⟩,
       ⟨some 31, .mov (.t 32), none⟩] [0, 1] [])
     (.cond (.t 31)
      (.region [⟨some 33, .mov (.t 3), none⟩,
        ⟨some 34, .call 13 [(.t 33), (.k (.v (.one (.int .i64 9))))], none⟩,
        ⟨some 35, .bin .sub (.t 34) (.k (.v (.one (.int .i64 2)))), none⟩,
        ⟨some 36, .fadr 2 (.t 8), none⟩,
        ⟨none, .store 1 (.t 36) (.t 35), none⟩] [0, 1, 2, 3, 4] [])
      (.seq
      (.region [⟨some 38, .bin .eql (.t 30) (.k (.v (.one (.int .i64 1)))), none⟩,
        ⟨some 37, .mov (.t 38), none⟩] [0, 1] [])
      (.cond (.t 37)
       (.region [⟨some 39, .mov (.t 3), none⟩,
         ⟨some 40, .call 13 [(.t 39), (.k (.v (.one (.int .i64 9))))], none⟩,
         ⟨some 41, .bin .sub (.t 40) (.k (.v (.one (.int .i64 2)))), none⟩,
         ⟨some 42, .fadr 3 (.t 8), none⟩,
         ⟨none, .store 1 (.t 42) (.t 41), none⟩] [0, 1, 2, 3, 4] [])
       .skip [3, 4, 5, 6, 7, 8])) [3, 4, 5, 6, 7, 8]))))
    (.seq
    (.seq
    (.region [⟨some 43, .mov (.t 7), none⟩] [0] [])
    (.cond (.t 43)
     (.region [⟨some 44, .mov (.t 5), none⟩,
       ⟨some 45, .mov (.t 6), none⟩,
       ⟨some 46, .bin .add (.t 44) (.t 45), none⟩,
       ⟨some 5, .mov (.t 46), none⟩] [0, 1, 2, 3] [])
     (.region [⟨some 47, .mov (.t 5), none⟩,
       ⟨some 48, .mov (.t 6), none⟩,
       ⟨some 49, .bin .sub (.t 47) (.t 48), none⟩,
       ⟨some 5, .mov (.t 49), none⟩] [0, 1, 2, 3] []) [3, 4, 5, 8]))
    (.seq
    (.region [⟨some 50, .load (some 3) (.t 4), none⟩,
      ⟨some 51, .load (some 4) (.t 8), none⟩,
      ⟨some 52, .call 14 [(.t 50), (.t 51)], none⟩,
      ⟨none, .store 3 (.t 4) (.t 52), none⟩] [0, 1, 2, 3] [])
    (.seq
    (.seq
    (.region [⟨some 53, .mov (.t 5), none⟩,
      ⟨some 54, .bin .eql (.t 53) (.k (.v (.one (.int .i64 0)))), none⟩,
      ⟨some 55, .mov (.t 54), none⟩,
      ⟨some 56, .mov (.t 3), some (55, true)⟩,
      ⟨some 57, .call 13 [(.t 56), (.k (.v (.one (.int .i64 3))))], some (55, true)⟩,
      ⟨some 58, .bin .eql (.t 57) (.k (.v (.one (.int .i64 0)))), some (55, true)⟩,
      ⟨some 59, .pick (.t 55) (.t 58) (.k (.v (.one (.bool false)))), none⟩] [0, 1, 2, 3, 4, 5, 6] [])
    (.cond (.t 59)
     (.region [⟨some 60, .load (some 3) (.t 4), none⟩,
       ⟨some 61, .call 18 [(.t 60)], none⟩,
       ⟨none, .store 3 (.t 4) (.t 61), none⟩] [0, 1, 2] [])
     .skip [3, 4, 5]))
    (.seq
    (.region [⟨some 62, .load (some 3) (.t 4), none⟩,
      ⟨some 63, .call 15 [(.t 62)], none⟩,
      ⟨some 64, .bin .eql (.t 63) (.k (.v (.one (.int .i64 0)))), none⟩,
      ⟨some 65, .mov (.t 64), none⟩,
      ⟨some 66, .mov (.t 5), some (65, true)⟩,
      ⟨some 67, .bin .neq (.t 66) (.k (.v (.one (.int .i64 0)))), some (65, true)⟩,
      ⟨some 68, .pick (.t 65) (.t 67) (.k (.v (.one (.bool false)))), none⟩] [0, 1, 2, 3, 4, 5, 6] [])
    (.cond (.t 68)
     (.seq
     (.region [⟨some 2, .mov (.k (.v (.one (.bool false)))), none⟩] [0] [])
     .ret)
     .skip [2, 3, 4, 5])))))))))))))
 (.seq
 (.region [⟨some 69, .call 16 [], none⟩,
   ⟨some 2, .mov (.t 69), none⟩] [0, 1] [])
 .ret))))))⟩
theorem t7 : tell Try.prog Try.f7 [([3, 4, 5], [], []), ([3, 4, 5], [], []), ([3, 4, 5, 6, 7, 8], [], []), ([3, 4, 5, 6, 7, 8], [], []), ([3, 4, 5, 8], [], []), ([3, 4, 5], [], []), ([2, 3, 4, 5], [], [])] = some a7 := by kernel_rfl
theorem ok7 : FuncOk Try.prog 7 a7 := tell_ok Try.func7 t7

/-- railplan/railplanlaw31.DetectorLatch -/
def a8 : AFunc := ⟨3, [6], none,
 (.seq
 (.region [⟨some 6, .mov (.k (.v (.one (.bool false)))), none⟩] [0] [])
 (.seq
 (.region [⟨some 14, .build [(.int .i64 0), (.int .i64 0), (.int .i64 0)] [], none⟩,
   ⟨some 15, .mov (.t 1), none⟩,
   ⟨some 16, .call 17 [(.t 15), (.k (.v (.one (.int .i64 3))))], none⟩,
   ⟨some 17, .bin .add (.k (.v (.one (.int .i64 1)))) (.t 16), none⟩,
   ⟨some 18, .mov (.t 2), none⟩,
   ⟨some 19, .call 17 [(.t 18), (.k (.v (.one (.int .i64 3))))], none⟩,
   ⟨some 20, .bin .add (.k (.v (.one (.int .i64 5)))) (.t 19), none⟩,
   ⟨some 21, .build [(.int .i64 0), (.bool false), (.int .i64 0), (.int .i64 0)] [(1, 1, (.k (.v (.one (.bool true))))), (2, 1, (.t 17)), (3, 1, (.t 20))], none⟩,
   ⟨some 22, .call 14 [(.t 14), (.t 21)], none⟩,
   ⟨some 7, .new 26 [(.int .i64 0), (.int .i64 0), (.int .i64 0)], none⟩,
   ⟨none, .store 3 (.t 7) (.t 22), none⟩] [0, 1, 2, 3, 4, 5, 6, 7, 8, 9, 10] [])
 (.seq
 (.region [⟨some 23, .mov (.t 0), none⟩,
   ⟨some 24, .call 22 [(.t 23)], none⟩,
   ⟨some 8, .mov (.t 24), none⟩] [0, 1, 2] [])
 (.seq
 (.seq
 (.region [⟨some 25, .mov (.t 8), none⟩,
   ⟨some 26, .len (.t 25), none⟩,
   ⟨some 27, .mov (.k (.v (.one (.int .i64 0)))), none⟩] [0, 1, 2] [])
 (.block 0
  (.loop [1, 7, 25, 26, 27]
   (.seq
   (.region [⟨some 28, .bin .lss (.t 27) (.t 26), none⟩] [0] [])
   (.seq
   (.cond (.t 28)
    .skip
    (.exit 0) [1, 7, 25, 26, 27])
   (.seq
   (.block 1
    (.seq
    (.region [⟨some 29, .iadr 4 (.t 25) (.t 27), none⟩,
      ⟨some 30, .load (some 4) (.t 29), none⟩,
      ⟨some 10, .new 31 [(.int .i64 0), (.bool false), (.int .i64 0), (.int .i64 0)], none⟩,
      ⟨none, .store 4 (.t 10) (.t 30), none⟩] [0, 1, 2, 3] [])
    (.seq
    (.region [⟨some 31, .load (some 3) (.t 7), none⟩,
      ⟨some 32, .load (some 4) (.t 10), none⟩,
      ⟨some 33, .call 14 [(.t 31), (.t 32)], none⟩,
      ⟨none, .store 3 (.t 7) (.t 33), none⟩] [0, 1, 2, 3] [])
    (.seq
    (.region [⟨some 34, .load (some 3) (.t 7), none⟩,
      ⟨some 35, .call 15 [(.t 34)], none⟩,
      ⟨some 36, .bin .neq (.t 35) (.k (.v (.one (.int .i64 2)))), none⟩,
      ⟨some 37, .mov (.t 36), none⟩,
      ⟨some 38, .load (some 3) (.t 7), some (37, false)⟩,
      ⟨some 39, .build [(.int .i64 0), (.int .i64 0), (.int .i64 0)] [(0, 1, (.k (.v (.one (.int .i64 1)))))], some (37, false)⟩,
      ⟨some 40, .eqs true [true, true, true] (.t 38) (.t 39), some (37, false)⟩,
      ⟨some 41, .pick (.t 37) (.k (.v (.one (.bool true)))) (.t 40), none⟩] [0, 1, 2, 3, 4, 5, 6, 7] [])
    (.cond (.t 41)
     (.seq
     (.region [⟨some 6, .mov (.k (.v (.one (.bool false)))), none⟩] [0] [])
     .ret)
     .skip [1, 6, 7, 25, 26, 27])))))
   (.region [⟨some 42, .bin .add (.t 27) (.k (.v (.one (.int .i64 1)))), none⟩,
     ⟨some 27, .mov (.t 42), none⟩] [0, 1] [])))))))
 (.seq
 (.region [⟨some 43, .load (some 3) (.t 7), none⟩,
   ⟨some 44, .call 18 [(.t 43)], none⟩,
   ⟨none, .store 3 (.t 7) (.t 44), none⟩] [0, 1, 2] [])
 (.seq
 (.region [⟨some 45, .mov (.t 1), none⟩,
   ⟨some 46, .call 17 [(.t 45), (.k (.v (.one (.int .i64 9))))], none⟩,
   ⟨some 47, .bin .add (.k (.v (.one (.int .i64 1)))) (.t 46), none⟩,
   ⟨some 11, .mov (.t 47), none⟩] [0, 1, 2, 3] [])
 (.seq
 (.region [⟨some 48, .load (some 3) (.t 7), none⟩,
   ⟨some 49, .mov (.t 11), none⟩,
   ⟨some 50, .mov (.t 11), none⟩,
   ⟨some 51, .build [(.int .i64 0), (.bool false), (.int .i64 0), (.int .i64 0)] [(1, 1, (.k (.v (.one (.bool true))))), (2, 1, (.t 49)), (3, 1, (.t 50))], none⟩,
   ⟨some 52, .call 14 [(.t 48), (.t 51)], none⟩,
   ⟨some 12, .new 26 [(.int .i64 0), (.int .i64 0), (.int .i64 0)], none⟩,
   ⟨none, .store 3 (.t 12) (.t 52), none⟩] [0, 1, 2, 3, 4, 5, 6] [])
 (.seq
 (.region [⟨some 53, .load (some 3) (.t 12), none⟩,
   ⟨some 54, .mov (.t 11), none⟩,
   ⟨some 55, .mov (.t 11), none⟩,
   ⟨some 56, .build [(.int .i64 0), (.bool false), (.int .i64 0), (.int .i64 0)] [(2, 1, (.t 54)), (3, 1, (.t 55))], none⟩,
   ⟨some 57, .call 14 [(.t 53), (.t 56)], none⟩,
   ⟨some 13, .new 26 [(.int .i64 0), (.int .i64 0), (.int .i64 0)], none⟩,
   ⟨none, .store 3 (.t 13) (.t 57), none⟩] [0, 1, 2, 3, 4, 5, 6] [])
 (.seq
 (.region [⟨some 58, .call 16 [], none⟩,
   ⟨some 59, .mov (.t 58), none⟩,
   ⟨some 60, .load (some 3) (.t 7), some (59, true)⟩,
   ⟨some 61, .build [(.int .i64 0), (.int .i64 0), (.int .i64 0)] [(0, 1, (.k (.v (.one (.int .i64 2)))))], some (59, true)⟩,
   ⟨some 62, .eqs false [true, true, true] (.t 60) (.t 61), some (59, true)⟩,
   ⟨some 63, .pick (.t 59) (.t 62) (.k (.v (.one (.bool false)))), none⟩,
   ⟨some 64, .mov (.t 63), none⟩,
   ⟨some 65, .load (some 3) (.t 7), some (64, true)⟩,
   ⟨some 66, .call 15 [(.t 65)], some (64, true)⟩,
   ⟨some 67, .bin .eql (.t 66) (.k (.v (.one (.int .i64 2)))), some (64, true)⟩,
   ⟨some 68, .pick (.t 64) (.t 67) (.k (.v (.one (.bool false)))), none⟩,
   ⟨some 69, .mov (.t 68), none⟩,
   ⟨some 70, .load (some 3) (.t 12), some (69, true)⟩,
   ⟨some 71, .call 15 [(.t 70)], some (69, true)⟩,
   ⟨some 72, .bin .eql (.t 71) (.k (.v (.one (.int .i64 2)))), some (69, true)⟩,
   ⟨some 73, .pick (.t 69) (.t 72) (.k (.v (.one (.bool false)))), none⟩,
   ⟨some 74, .mov (.t 73), none⟩,
   ⟨some 75, .load (some 3) (.t 13), some (74, true)⟩,
   ⟨some 76, .call 15 [(.t 75)], some (74, true)⟩,
   ⟨some 77, .bin .eql (.t 76) (.k (.v (.one (.int .i64 0)))), some (74, true)⟩,
   ⟨some 78, .pick (.t 74) (.t 77) (.k (.v (.one (.bool false)))), none⟩,
   ⟨some 6, .mov (.t 78), none⟩] [0, 1, 2, 3, 4, 5, 6, 7, 8, 9, 10, 11, 12, 13, 14, 15, 16, 17, 18, 19, 20, 21] [])
 .ret)))))))))⟩
theorem t8 : tell Try.prog Try.f8 [([1, 7, 25, 26, 27], [], []), ([1, 7, 25, 26, 27], [], []), ([1, 6, 7, 25, 26, 27], [], [])] = some a8 := by kernel_rfl
theorem ok8 : FuncOk Try.prog 8 a8 := tell_ok Try.func8 t8

end Go.Proofs.Ytellgcahkpaldaa.Fn
