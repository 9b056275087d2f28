/- Functions of the program, as the abstract machine's, and that they are. Conditions: none. -/
import Derived.Test.YtellgcahkpaldaaAmCo
import Derived.Test.YtellgcahkpaldaaProg
set_option linter.unusedVariables false
namespace Go.Proofs.Ytellgcahkpaldaa.Fn
open Go Go.Am
set_option maxRecDepth 100000
/-- railplan/railplanlaw31.DetectorRun -/
def a9 : AFunc := ⟨1, [2], none,
 (.seq
 (.region [⟨some 2, .mov (.k (.v (.one (.bool false)))), none⟩] [0] [])
 (.seq
 (.region [⟨some 11, .mov (.t 0), none⟩,
   ⟨some 12, .call 22 [(.t 11)], none⟩,
   ⟨some 3, .mov (.t 12), none⟩] [0, 1, 2] [])
 (.seq
 (.region [⟨some 13, .mks 26 3 24 [(.int .i64 0), (.int .i64 0), (.int .i64 0)] (.k (.v (.one (.int .i64 3)))) (.k (.v (.one (.int .i64 3)))), none⟩,
   ⟨some 4, .mov (.t 13), none⟩] [0, 1] [])
 (.seq
 (.seq
 (.region [⟨some 14, .mov (.t 3), none⟩,
   ⟨some 15, .len (.t 14), none⟩,
   ⟨some 16, .mov (.k (.v (.one (.int .i64 0)))), none⟩] [0, 1, 2] [])
 (.block 0
  (.loop [3, 4, 14, 15, 16]
   (.seq
   (.region [⟨some 17, .bin .lss (.t 16) (.t 15), none⟩] [0] [])
   (.seq
   (.cond (.t 17)
    .skip
    (.exit 0) [3, 4, 14, 15, 16])
   (.seq
   (.block 1
    (.seq
    (.region [⟨some 18, .iadr 4 (.t 14) (.t 16), none⟩,
      ⟨some 19, .load (some 4) (.t 18), none⟩,
      ⟨some 6, .new 31 [(.int .i64 0), (.bool false), (.int .i64 0), (.int .i64 0)], none⟩,
      ⟨none, .store 4 (.t 6) (.t 19), none⟩] [0, 1, 2, 3] [])
    (.region [⟨some 20, .mov (.t 4), none⟩,
      ⟨some 21, .fadr 0 (.t 6), none⟩,
      ⟨some 22, .load none (.t 21), none⟩,
      ⟨some 23, .mov (.t 4), none⟩,
      ⟨some 24, .fadr 0 (.t 6), none⟩,
      ⟨some 25, .load none (.t 24), none⟩,
      ⟨some 26, .iadr 3 (.t 23) (.t 25), none⟩,
      ⟨some 27, .load (some 3) (.t 26), none⟩,
      ⟨some 28, .load (some 4) (.t 6), none⟩,
      ⟨some 29, .call 14 [(.t 27), (.t 28)], none⟩,
      ⟨some 30, .iadr 3 (.t 20) (.t 22), none⟩,
      ⟨none, .store 3 (.t 30) (.t 29), none⟩] [0, 1, 2, 3, 4, 5, 6, 7, 8, 9, 10, 11] [(9, [2])])))
   (.region [⟨some 31, .bin .add (.t 16) (.k (.v (.one (.int .i64 1)))), none⟩,
     ⟨some 16, .mov (.t 31), none⟩] [0, 1] [])))))))
 (.seq
 (.region [⟨some 33, .mov (.t 3), none⟩,
   ⟨some 34, .call 23 [(.k (.v (.one (.int .i64 3)))), (.t 33)], none⟩,
   ⟨some 32, .mov (.t 34), none⟩,
   ⟨some 35, .ext 0 (.t 32), none⟩,
   ⟨some 36, .ext 1 (.t 32), none⟩,
   ⟨some 7, .mov (.t 35), none⟩,
   ⟨some 8, .mov (.t 36), none⟩] [0, 1, 2, 3, 4, 5, 6] [])
 (.seq
 (.region [⟨some 38, .mov (.t 3), none⟩,
   ⟨some 39, .call 24 [(.k (.v (.one (.int .i64 3)))), (.t 38)], none⟩,
   ⟨some 37, .mov (.t 39), none⟩,
   ⟨some 40, .ext 0 (.t 37), none⟩,
   ⟨some 41, .ext 1 (.t 37), none⟩,
   ⟨some 9, .mov (.t 40), none⟩,
   ⟨some 10, .mov (.t 41), none⟩] [0, 1, 2, 3, 4, 5, 6] [])
 (.seq
 (.region [⟨some 42, .call 16 [], none⟩,
   ⟨some 43, .mov (.t 42), none⟩,
   ⟨some 44, .mov (.t 8), some (43, true)⟩,
   ⟨some 45, .bin .eql (.t 44) (.k (.v (.one (.int .i64 0)))), some (43, true)⟩,
   ⟨some 46, .pick (.t 43) (.t 45) (.k (.v (.one (.bool false)))), none⟩,
   ⟨some 47, .mov (.t 46), none⟩,
   ⟨some 48, .mov (.t 10), some (47, true)⟩,
   ⟨some 49, .bin .eql (.t 48) (.k (.v (.one (.int .i64 0)))), some (47, true)⟩,
   ⟨some 50, .pick (.t 47) (.t 49) (.k (.v (.one (.bool false)))), none⟩,
   ⟨some 51, .mov (.t 50), none⟩,
   ⟨some 52, .mov (.t 7), some (51, true)⟩,
   ⟨some 53, .mov (.t 4), some (51, true)⟩,
   ⟨some 54, .call 25 [(.t 52), (.t 53)], some (51, true)⟩,
   ⟨some 55, .pick (.t 51) (.t 54) (.k (.v (.one (.bool false)))), none⟩,
   ⟨some 56, .mov (.t 55), none⟩,
   ⟨some 57, .mov (.t 7), some (56, true)⟩,
   ⟨some 58, .mov (.t 9), some (56, true)⟩,
   ⟨some 59, .call 25 [(.t 57), (.t 58)], some (56, true)⟩,
   ⟨some 60, .pick (.t 56) (.t 59) (.k (.v (.one (.bool false)))), none⟩,
   ⟨some 2, .mov (.t 60), none⟩] [0, 1, 2, 3, 4, 5, 6, 7, 8, 9, 10, 11, 12, 13, 14, 15, 16, 17, 18, 19] [])
 .ret)))))))⟩
theorem t9 : tell Try.prog Try.f9 [([3, 4, 14, 15, 16], [], []), ([3, 4, 14, 15, 16], [], []), ([0, 1, 2, 3, 4, 5, 6, 7, 8, 9, 10, 11], [(9, [2])], [0, 0, 2, 0, 0, 16, 56, 120, 0, 504, 1023, 2047])] = some a9 := by kernel_rfl
theorem ok9 : FuncOk Try.prog 9 a9 := tell_ok Try.func9 t9

/-- railplan/railplanlaw31.DetectorRaw -/
def a10 : AFunc := ⟨4, [8], none,
 (.seq
 (.region [⟨some 4, .box 26 3 (.t 0), none⟩,
   ⟨some 5, .box 31 4 (.t 1), none⟩,
   ⟨some 8, .mov (.k (.v (.one (.bool false)))), none⟩] [0, 1, 2] [])
 (.seq
 (.region [⟨some 14, .mov (.t 2), none⟩,
   ⟨some 15, .mov (.t 3), none⟩,
   ⟨some 16, .call 23 [(.t 14), (.t 15)], none⟩,
   ⟨some 13, .mov (.t 16), none⟩,
   ⟨some 17, .ext 0 (.t 13), none⟩,
   ⟨some 18, .ext 1 (.t 13), none⟩,
   ⟨some 9, .mov (.t 17), none⟩,
   ⟨some 10, .mov (.t 18), none⟩] [0, 1, 2, 3, 4, 5, 6, 7] [])
 (.seq
 (.region [⟨some 20, .mov (.t 2), none⟩,
   ⟨some 21, .mov (.t 3), none⟩,
   ⟨some 22, .call 24 [(.t 20), (.t 21)], none⟩,
   ⟨some 19, .mov (.t 22), none⟩,
   ⟨some 23, .ext 0 (.t 19), none⟩,
   ⟨some 24, .ext 1 (.t 19), none⟩,
   ⟨some 11, .mov (.t 23), none⟩,
   ⟨some 12, .mov (.t 24), none⟩] [0, 1, 2, 3, 4, 5, 6, 7] [])
 (.seq
 (.region [⟨some 25, .call 16 [], none⟩,
   ⟨some 26, .mov (.t 25), none⟩,
   ⟨some 27, .load (some 3) (.t 4), some (26, true)⟩,
   ⟨some 28, .load (some 4) (.t 5), some (26, true)⟩,
   ⟨some 29, .call 14 [(.t 27), (.t 28)], some (26, true)⟩,
   ⟨some 30, .load (some 3) (.t 4), some (26, true)⟩,
   ⟨some 31, .load (some 4) (.t 5), some (26, true)⟩,
   ⟨some 32, .call 19 [(.t 30), (.t 31)], some (26, true)⟩,
   ⟨some 33, .eqs false [true, true, true] (.t 29) (.t 32), some (26, true)⟩,
   ⟨some 34, .pick (.t 26) (.t 33) (.k (.v (.one (.bool false)))), none⟩,
   ⟨some 35, .mov (.t 34), none⟩,
   ⟨some 36, .load (some 3) (.t 4), some (35, true)⟩,
   ⟨some 37, .call 18 [(.t 36)], some (35, true)⟩,
   ⟨some 38, .load (some 3) (.t 4), some (35, true)⟩,
   ⟨some 39, .call 21 [(.t 38)], some (35, true)⟩,
   ⟨some 40, .eqs false [true, true, true] (.t 37) (.t 39), some (35, true)⟩,
   ⟨some 41, .pick (.t 35) (.t 40) (.k (.v (.one (.bool false)))), none⟩,
   ⟨some 42, .mov (.t 41), none⟩,
   ⟨some 43, .load (some 3) (.t 4), some (42, true)⟩,
   ⟨some 44, .call 15 [(.t 43)], some (42, true)⟩,
   ⟨some 45, .load (some 3) (.t 4), some (42, true)⟩,
   ⟨some 46, .call 20 [(.t 45)], some (42, true)⟩,
   ⟨some 47, .bin .eql (.t 44) (.t 46), some (42, true)⟩,
   ⟨some 48, .pick (.t 42) (.t 47) (.k (.v (.one (.bool false)))), none⟩,
   ⟨some 49, .mov (.t 48), none⟩,
   ⟨some 50, .mov (.t 9), some (49, true)⟩,
   ⟨some 51, .mov (.t 11), some (49, true)⟩,
   ⟨some 52, .call 25 [(.t 50), (.t 51)], some (49, true)⟩,
   ⟨some 53, .pick (.t 49) (.t 52) (.k (.v (.one (.bool false)))), none⟩,
   ⟨some 54, .mov (.t 53), none⟩,
   ⟨some 55, .mov (.t 10), some (54, true)⟩,
   ⟨some 56, .mov (.t 12), some (54, true)⟩,
   ⟨some 57, .bin .eql (.t 55) (.t 56), some (54, true)⟩,
   ⟨some 58, .pick (.t 54) (.t 57) (.k (.v (.one (.bool false)))), none⟩,
   ⟨some 8, .mov (.t 58), none⟩] [0, 1, 2, 3, 5, 6, 4, 7, 8, 9, 10, 11, 13, 12, 14, 15, 16, 17, 18, 20, 19, 21, 22, 23, 24, 25, 26, 27, 28, 29, 30, 31, 32, 33, 34] [(4, [5, 6]), (12, [13]), (19, [20])])
 .ret))))⟩
theorem t10 : tell Try.prog Try.f10 [([0, 1, 2, 3, 5, 6, 4, 7, 8, 9, 10, 11, 13, 12, 14, 15, 16, 17, 18, 20, 19, 21, 22, 23, 24, 25, 26, 27, 28, 29, 30, 31, 32, 33, 34], [(4, [5, 6]), (12, [13]), (19, [20])], [0, 1, 3, 3, 15, 3, 3, 127, 255, 511, 1023, 2047, 4095, 2047, 16383, 32767, 65535, 131071, 262143, 524287, 262143, 2097151, 4194303, 8388607, 16777215, 33554431, 33554431, 134217727, 268435455, 536870911, 1073741823, 1073741823, 4294967295, 8589934591, 17179869183])] = some a10 := by kernel_rfl
theorem ok10 : FuncOk Try.prog 10 a10 := tell_ok Try.func10 t10

/-- railplan/railplankeep.From -/
def a11 : AFunc := ⟨1, [2], none,
 (.seq
 (.region [⟨some 2, .mov (.k (.v (.one .nilp))), none⟩] [0] [])
 (.seq
 (.region [⟨some 3, .mov (.t 0), none⟩,
   ⟨some 4, .build [.nils, (.int .i64 0)] [(0, 1, (.t 3))], none⟩,
   ⟨some 5, .box 48 2 (.t 4), none⟩,
   ⟨some 2, .mov (.t 5), none⟩] [0, 1, 2, 3] [])
 .ret))⟩
theorem t11 : tell Try.prog Try.f11 [] = some a11 := by kernel_rfl
theorem ok11 : FuncOk Try.prog 11 a11 := tell_ok Try.func11 t11

/-- (*railplan/railplankeep.Source).Left -/
def a12 : AFunc := ⟨1, [2], none,
 (.seq
 (.region [⟨some 2, .mov (.k (.v (.one (.bool false)))), none⟩] [0] [])
 (.seq
 (.region [⟨some 3, .mov (.t 0), none⟩,
   ⟨some 4, .nilchk (.t 3), none⟩,
   ⟨some 5, .fadr 1 (.t 4), none⟩,
   ⟨some 6, .load none (.t 5), none⟩,
   ⟨some 7, .mov (.t 0), none⟩,
   ⟨some 8, .nilchk (.t 7), none⟩,
   ⟨some 9, .fadr 0 (.t 8), none⟩,
   ⟨some 10, .load none (.t 9), none⟩,
   ⟨some 11, .len (.t 10), none⟩,
   ⟨some 12, .bin .lss (.t 6) (.t 11), none⟩,
   ⟨some 2, .mov (.t 12), none⟩] [0, 1, 2, 3, 4, 5, 6, 7, 8, 9, 10] [])
 .ret))⟩
theorem t12 : tell Try.prog Try.f12 [([0, 1, 2, 3, 4, 5, 6, 7, 8, 9, 10], [], [0, 1, 3, 7, 0, 16, 48, 112, 240, 511, 1023])] = some a12 := by kernel_rfl
theorem ok12 : FuncOk Try.prog 12 a12 := tell_ok Try.func12 t12

/-- (*railplan/railplankeep.Source).Next -/
def a13 : AFunc := ⟨2, [4], none,
 (.seq
 (.region [⟨some 4, .mov (.k (.v (.one (.int .i64 0)))), none⟩] [0] [])
 (.seq
 (.seq
 (.region [⟨some 5, .mov (.t 0), none⟩,
   ⟨some 6, .nilchk (.t 5), none⟩,
   ⟨some 7, .fadr 1 (.t 6), none⟩,
   ⟨some 8, .load none (.t 7), none⟩,
   ⟨some 9, .mov (.t 0), none⟩,
   ⟨some 10, .nilchk (.t 9), none⟩,
   ⟨some 11, .fadr 0 (.t 10), none⟩,
   ⟨some 12, .load none (.t 11), none⟩,
   ⟨some 13, .len (.t 12), none⟩,
   ⟨some 14, .bin .geq (.t 8) (.t 13), none⟩] [0, 1, 2, 3, 4, 5, 6, 7, 8, 9] [])
 (.cond (.t 14)
  (.seq
  (.region [⟨some 4, .mov (.k (.v (.one (.int .i64 0)))), none⟩] [0] [])
  .ret)
  .skip [0, 1, 4]))
 (.seq
 (.region [⟨some 15, .mov (.t 0), none⟩,
   ⟨some 16, .nilchk (.t 15), none⟩,
   ⟨some 17, .fadr 1 (.t 16), none⟩,
   ⟨some 18, .load none (.t 17), none⟩,
   ⟨some 19, .bin .add (.t 18) (.k (.v (.one (.int .i64 1)))), none⟩,
   ⟨some 20, .nilchk (.t 15), none⟩,
   ⟨some 21, .fadr 1 (.t 20), none⟩,
   ⟨none, .store 1 (.t 21) (.t 19), none⟩] [0, 1, 2, 3, 4, 5, 6, 7] [])
 (.seq
 (.region [⟨some 22, .mov (.t 0), none⟩,
   ⟨some 23, .nilchk (.t 22), none⟩,
   ⟨some 24, .fadr 0 (.t 23), none⟩,
   ⟨some 25, .load none (.t 24), none⟩,
   ⟨some 26, .mov (.t 0), none⟩,
   ⟨some 27, .nilchk (.t 26), none⟩,
   ⟨some 28, .fadr 1 (.t 27), none⟩,
   ⟨some 29, .load none (.t 28), none⟩,
   ⟨some 30, .bin .sub (.t 29) (.k (.v (.one (.int .i64 1)))), none⟩,
   ⟨some 31, .iadr 1 (.t 25) (.t 30), none⟩,
   ⟨some 32, .load none (.t 31), none⟩,
   ⟨some 33, .mov (.t 1), none⟩,
   ⟨some 34, .call 17 [(.t 32), (.t 33)], none⟩,
   ⟨some 4, .mov (.t 34), none⟩] [0, 1, 2, 3, 4, 5, 6, 7, 8, 9, 10, 11, 12, 13] [])
 .ret))))⟩
theorem t13 : tell Try.prog Try.f13 [([0, 1, 2, 3, 4, 5, 6, 7, 8, 9], [], [0, 1, 3, 7, 0, 16, 48, 112, 240, 511]), ([0, 1, 4], [], []), ([0, 1, 2, 3, 4, 5, 6, 7, 8, 9, 10, 11, 12, 13], [], [0, 1, 3, 7, 0, 16, 48, 112, 240, 511, 1023, 0, 4095, 8191])] = some a13 := by kernel_rfl
theorem ok13 : FuncOk Try.prog 13 a13 := tell_ok Try.func13 t13

/-- railplan/detector.Feed -/
def a14 : AFunc := ⟨2, [4], some (some 3),
 (.seq
 (.region [⟨some 2, .box 26 3 (.t 0), none⟩,
   ⟨some 3, .box 31 4 (.t 1), none⟩,
   ⟨some 4, .new 26 [(.int .i64 0), (.int .i64 0), (.int .i64 0)], none⟩] [0, 1, 2] [])
 (.seq
 (.seq
 (.region [⟨some 6, .load (some 3) (.t 2), none⟩,
   ⟨some 7, .call 26 [(.t 6)], none⟩,
   ⟨some 8, .not (.t 7), none⟩,
   ⟨some 9, .mov (.t 8), none⟩,
   ⟨some 10, .load (some 4) (.t 3), some (9, false)⟩,
   ⟨some 11, .call 27 [(.t 10)], some (9, false)⟩,
   ⟨some 12, .not (.t 11), some (9, false)⟩,
   ⟨some 13, .pick (.t 9) (.k (.v (.one (.bool true)))) (.t 12), none⟩] [0, 1, 2, 3, 4, 5, 6, 7] [])
 (.cond (.t 13)
  (.seq
  (.region [⟨some 14, .build [(.int .i64 0), (.int .i64 0), (.int .i64 0)] [(0, 1, (.k (.v (.one (.int .i64 1)))))], none⟩,
    ⟨none, .store 3 (.t 4) (.t 14), none⟩] [0, 1] [])
  .ret)
  .skip [2, 3, 4]))
 (.seq
 (.region [⟨some 15, .fadr 1 (.t 2), none⟩,
   ⟨some 16, .load none (.t 15), none⟩,
   ⟨some 17, .fadr 2 (.t 3), none⟩,
   ⟨some 18, .load none (.t 17), none⟩,
   ⟨some 19, .bin .add (.t 16) (.t 18), none⟩,
   ⟨some 5, .mov (.t 19), none⟩] [0, 1, 2, 3, 4, 5] [])
 (.seq
 (.seq
 (.region [⟨some 20, .fadr 1 (.t 3), none⟩,
   ⟨some 21, .load none (.t 20), none⟩,
   ⟨some 22, .not (.t 21), none⟩] [0, 1, 2] [])
 (.cond (.t 22)
  (.region [⟨some 23, .fadr 1 (.t 2), none⟩,
    ⟨some 24, .load none (.t 23), none⟩,
    ⟨some 25, .fadr 2 (.t 3), none⟩,
    ⟨some 26, .load none (.t 25), none⟩,
    ⟨some 27, .bin .sub (.t 24) (.t 26), none⟩,
    ⟨some 5, .mov (.t 27), none⟩] [0, 1, 2, 3, 4, 5] [])
  .skip [2, 3, 4, 5]))
 (.seq
 (.block 0
  (.seq
  (.region [⟨some 29, .mov (.t 5), none⟩,
    ⟨some 30, .bin .lss (.t 29) (.k (.v (.one (.int .i64 0)))), none⟩,
    ⟨some 31, .mov (.t 30), none⟩,
    ⟨some 32, .mov (.t 5), some (31, false)⟩,
    ⟨some 33, .bin .gtr (.t 32) (.k (.v (.one (.int .i64 1600)))), some (31, false)⟩,
    ⟨some 34, .pick (.t 31) (.k (.v (.one (.bool true)))) (.t 33), none⟩,
    ⟨some 28, .mov (.t 34), none⟩] [0, 1, 2, 3, 4, 5, 6] [])
  (.cond (.t 28)
   (.seq
   (.region [⟨some 35, .build [(.int .i64 0), (.int .i64 0), (.int .i64 0)] [(0, 1, (.k (.v (.one (.int .i64 1)))))], none⟩,
     ⟨none, .store 3 (.t 4) (.t 35), none⟩] [0, 1] [])
   .ret)
   (.seq
   (.region [⟨some 37, .fadr 0 (.t 2), none⟩,
     ⟨some 38, .load none (.t 37), none⟩,
     ⟨some 39, .bin .eql (.t 38) (.k (.v (.one (.int .i64 2)))), none⟩,
     ⟨some 40, .mov (.t 39), none⟩,
     ⟨some 41, .fadr 1 (.t 3), some (40, true)⟩,
     ⟨some 42, .load none (.t 41), some (40, true)⟩,
     ⟨some 43, .not (.t 42), some (40, true)⟩,
     ⟨some 44, .pick (.t 40) (.t 43) (.k (.v (.one (.bool false)))), none⟩,
     ⟨some 45, .mov (.t 44), none⟩,
     ⟨some 46, .mov (.t 5), some (45, true)⟩,
     ⟨some 47, .bin .eql (.t 46) (.k (.v (.one (.int .i64 0)))), some (45, true)⟩,
     ⟨some 48, .pick (.t 45) (.t 47) (.k (.v (.one (.bool false)))), none⟩,
     ⟨some 36, .mov (.t 48), none⟩] [0, 1, 2, 3, 4, 5, 6, 7, 8, 9, 10, 11, 12] [])
   (.cond (.t 36)
    (.seq
    (.region [⟨some 49, .build [(.int .i64 0), (.int .i64 0), (.int .i64 0)] [(0, 1, (.k (.v (.one (.int .i64 0)))))], none⟩,
      ⟨none, .store 3 (.t 4) (.t 49), none⟩] [0, 1] [])
    .ret)
    .skip [2, 4, 5])) [2, 4, 5])))
 (.seq
 (.region [⟨some 50, .fadr 0 (.t 2), none⟩,
   ⟨some 51, .load none (.t 50), none⟩,
   ⟨some 52, .mov (.t 5), none⟩,
   ⟨some 53, .mov (.t 5), none⟩,
   ⟨some 54, .build [(.int .i64 0), (.int .i64 0), (.int .i64 0)] [(0, 1, (.t 51)), (1, 1, (.t 52)), (2, 1, (.t 53))], none⟩,
   ⟨none, .store 3 (.t 4) (.t 54), none⟩] [0, 1, 2, 3, 4, 5] [])
 .ret))))))⟩
theorem t14 : tell Try.prog Try.f14 [([2, 3, 4], [], []), ([2, 3, 4, 5], [], []), ([2, 4, 5], [], []), ([2, 4, 5], [], [])] = some a14 := by kernel_rfl
theorem ok14 : FuncOk Try.prog 14 a14 := tell_ok Try.func14 t14

/-- railplan/detector.Report -/
def a15 : AFunc := ⟨1, [2], none,
 (.seq
 (.region [⟨some 1, .box 26 3 (.t 0), none⟩,
   ⟨some 2, .mov (.k (.v (.one (.int .i64 0)))), none⟩] [0, 1] [])
 (.seq
 (.block 0
  (.seq
  (.region [⟨some 4, .load (some 3) (.t 1), none⟩,
    ⟨some 5, .call 26 [(.t 4)], none⟩,
    ⟨some 6, .not (.t 5), none⟩,
    ⟨some 7, .mov (.t 6), none⟩,
    ⟨some 8, .fadr 0 (.t 1), some (7, false)⟩,
    ⟨some 9, .load none (.t 8), some (7, false)⟩,
    ⟨some 10, .bin .neq (.t 9) (.k (.v (.one (.int .i64 0)))), some (7, false)⟩,
    ⟨some 11, .pick (.t 7) (.k (.v (.one (.bool true)))) (.t 10), none⟩,
    ⟨some 3, .mov (.t 11), none⟩] [0, 1, 2, 3, 4, 5, 6, 7, 8] [])
  (.cond (.t 3)
   (.seq
   (.region [⟨some 2, .mov (.k (.v (.one (.int .i64 2)))), none⟩] [0] [])
   .ret)
   (.seq
   (.region [⟨some 13, .fadr 1 (.t 1), none⟩,
     ⟨some 14, .load none (.t 13), none⟩,
     ⟨some 15, .bin .gtr (.t 14) (.k (.v (.one (.int .i64 0)))), none⟩,
     ⟨some 12, .mov (.t 15), none⟩] [0, 1, 2, 3] [])
   (.cond (.t 12)
    (.seq
    (.region [⟨some 2, .mov (.k (.v (.one (.int .i64 1)))), none⟩] [0] [])
    .ret)
    .skip [2])) [2])))
 (.seq
 (.region [⟨some 2, .mov (.k (.v (.one (.int .i64 0)))), none⟩] [0] [])
 .ret)))⟩
theorem t15 : tell Try.prog Try.f15 [([2], [], []), ([2], [], [])] = some a15 := by kernel_rfl
theorem ok15 : FuncOk Try.prog 15 a15 := tell_ok Try.func15 t15

/-- railplan/railplanlaw31.awake -/
def a16 : AFunc := ⟨0, [0], none,
 (.seq
 (.region [⟨some 0, .mov (.k (.v (.one (.bool false)))), none⟩] [0] [])
 (.seq
 (.region [⟨some 3, .build [(.int .i64 0), (.int .i64 0), (.int .i64 0)] [], none⟩,
   ⟨some 4, .build [(.int .i64 0), (.bool false), (.int .i64 0), (.int .i64 0)] [(1, 1, (.k (.v (.one (.bool true))))), (2, 1, (.k (.v (.one (.int .i64 4))))), (3, 1, (.k (.v (.one (.int .i64 4)))))], none⟩,
   ⟨some 5, .call 14 [(.t 3), (.t 4)], none⟩,
   ⟨some 1, .new 26 [(.int .i64 0), (.int .i64 0), (.int .i64 0)], none⟩,
   ⟨none, .store 3 (.t 1) (.t 5), none⟩] [0, 1, 2, 3, 4] [])
 (.seq
 (.region [⟨some 6, .load (some 3) (.t 1), none⟩,
   ⟨some 7, .build [(.int .i64 0), (.bool false), (.int .i64 0), (.int .i64 0)] [(2, 1, (.k (.v (.one (.int .i64 4))))), (3, 1, (.k (.v (.one (.int .i64 3)))))], none⟩,
   ⟨some 8, .call 14 [(.t 6), (.t 7)], none⟩,
   ⟨some 2, .new 26 [(.int .i64 0), (.int .i64 0), (.int .i64 0)], none⟩,
   ⟨none, .store 3 (.t 2) (.t 8), none⟩] [0, 1, 2, 3, 4] [])
 (.seq
 (.region [⟨some 9, .load (some 3) (.t 1), none⟩,
   ⟨some 10, .build [(.int .i64 0), (.int .i64 0), (.int .i64 0)] [(1, 1, (.k (.v (.one (.int .i64 4))))), (2, 1, (.k (.v (.one (.int .i64 4)))))], none⟩,
   ⟨some 11, .eqs false [true, true, true] (.t 9) (.t 10), none⟩,
   ⟨some 12, .mov (.t 11), none⟩,
   ⟨some 13, .load (some 3) (.t 1), some (12, true)⟩,
   ⟨some 14, .call 15 [(.t 13)], some (12, true)⟩,
   ⟨some 15, .bin .eql (.t 14) (.k (.v (.one (.int .i64 1)))), some (12, true)⟩,
   ⟨some 16, .pick (.t 12) (.t 15) (.k (.v (.one (.bool false)))), none⟩,
   ⟨some 17, .mov (.t 16), none⟩,
   ⟨some 18, .load (some 3) (.t 2), some (17, true)⟩,
   ⟨some 19, .build [(.int .i64 0), (.int .i64 0), (.int .i64 0)] [(0, 1, (.k (.v (.one (.int .i64 1)))))], some (17, true)⟩,
   ⟨some 20, .eqs false [true, true, true] (.t 18) (.t 19), some (17, true)⟩,
   ⟨some 21, .pick (.t 17) (.t 20) (.k (.v (.one (.bool false)))), none⟩,
   ⟨some 22, .mov (.t 21), none⟩,
   ⟨some 23, .load (some 3) (.t 2), some (22, true)⟩,
   ⟨some 24, .call 15 [(.t 23)], some (22, true)⟩,
   ⟨some 25, .bin .eql (.t 24) (.k (.v (.one (.int .i64 2)))), some (22, true)⟩,
   ⟨some 26, .pick (.t 22) (.t 25) (.k (.v (.one (.bool false)))), none⟩,
   ⟨some 0, .mov (.t 26), none⟩] [0, 1, 2, 3, 4, 5, 6, 7, 8, 9, 10, 11, 12, 13, 14, 15, 16, 17, 18] [])
 .ret))))⟩
theorem t16 : tell Try.prog Try.f16 [] = some a16 := by kernel_rfl
theorem ok16 : FuncOk Try.prog 16 a16 := tell_ok Try.func16 t16

/-- railplan/railplankeep.Pick -/
def a17 : AFunc := ⟨2, [4], none,
 (.seq
 (.region [⟨some 4, .mov (.k (.v (.one (.int .i64 0)))), none⟩] [0] [])
 (.seq
 (.region [⟨some 5, .mov (.t 0), none⟩,
   ⟨some 6, .conv .u64 (.t 5), none⟩,
   ⟨some 7, .mov (.t 1), none⟩,
   ⟨some 8, .conv .u64 (.t 7), none⟩,
   ⟨some 9, .bin .rem (.t 6) (.t 8), none⟩,
   ⟨some 10, .conv .i64 (.t 9), none⟩,
   ⟨some 4, .mov (.t 10), none⟩] [0, 1, 2, 3, 4, 5, 6] [])
 .ret))⟩
theorem t17 : tell Try.prog Try.f17 [] = some a17 := by kernel_rfl
theorem ok17 : FuncOk Try.prog 17 a17 := tell_ok Try.func17 t17

/-- railplan/detector.Reset -/
def a18 : AFunc := ⟨1, [2], some (some 3),
 (.seq
 (.region [⟨some 1, .box 26 3 (.t 0), none⟩,
   ⟨some 2, .new 26 [(.int .i64 0), (.int .i64 0), (.int .i64 0)], none⟩] [0, 1] [])
 (.seq
 (.seq
 (.region [⟨some 3, .load (some 3) (.t 1), none⟩,
   ⟨some 4, .call 26 [(.t 3)], none⟩] [0, 1] [])
 (.cond (.t 4)
  (.seq
  (.region [⟨some 5, .load (some 3) (.t 1), none⟩,
    ⟨none, .store 3 (.t 2) (.t 5), none⟩] [0, 1] [])
  .ret)
  .skip [2]))
 (.seq
 (.region [⟨some 6, .build [(.int .i64 0), (.int .i64 0), (.int .i64 0)] [(0, 1, (.k (.v (.one (.int .i64 2)))))], none⟩,
   ⟨none, .store 3 (.t 2) (.t 6), none⟩] [0, 1] [])
 .ret)))⟩
theorem t18 : tell Try.prog Try.f18 [([2], [], [])] = some a18 := by kernel_rfl
theorem ok18 : FuncOk Try.prog 18 a18 := tell_ok Try.func18 t18

/-- railplan/railplanref30.Feed -/
def a19 : AFunc := ⟨2, [4], some (some 3),
 (.seq
 (.region [⟨some 2, .box 26 3 (.t 0), none⟩,
   ⟨some 3, .box 31 4 (.t 1), none⟩,
   ⟨some 4, .new 26 [(.int .i64 0), (.int .i64 0), (.int .i64 0)], none⟩] [0, 1, 2] [])
 (.seq
 (.seq
 (.region [⟨some 6, .load (some 3) (.t 2), none⟩,
   ⟨some 7, .call 28 [(.t 6)], none⟩,
   ⟨some 8, .not (.t 7), none⟩,
   ⟨some 9, .mov (.t 8), none⟩,
   ⟨some 10, .fadr 2 (.t 3), some (9, false)⟩,
   ⟨some 11, .load none (.t 10), some (9, false)⟩,
   ⟨some 12, .fadr 3 (.t 3), some (9, false)⟩,
   ⟨some 13, .load none (.t 12), some (9, false)⟩,
   ⟨some 14, .bin .neq (.t 11) (.t 13), some (9, false)⟩,
   ⟨some 15, .pick (.t 9) (.k (.v (.one (.bool true)))) (.t 14), none⟩,
   ⟨some 16, .mov (.t 15), none⟩,
   ⟨some 17, .fadr 2 (.t 3), some (16, false)⟩,
   ⟨some 18, .load none (.t 17), some (16, false)⟩,
   ⟨some 19, .bin .lss (.t 18) (.k (.v (.one (.int .i64 1)))), some (16, false)⟩,
   ⟨some 20, .pick (.t 16) (.k (.v (.one (.bool true)))) (.t 19), none⟩,
   ⟨some 21, .mov (.t 20), none⟩,
   ⟨some 22, .fadr 2 (.t 3), some (21, false)⟩,
   ⟨some 23, .load none (.t 22), some (21, false)⟩,
   ⟨some 24, .bin .gtr (.t 23) (.k (.v (.one (.int .i64 400)))), some (21, false)⟩,
   ⟨some 25, .pick (.t 21) (.k (.v (.one (.bool true)))) (.t 24), none⟩] [0, 1, 2, 3, 4, 5, 6, 7, 8, 9, 10, 11, 12, 13, 14, 15, 16, 17, 18, 19] [])
 (.cond (.t 25)
  (.seq
  (.region [⟨some 26, .build [(.int .i64 0), (.int .i64 0), (.int .i64 0)] [(0, 1, (.k (.v (.one (.int .i64 1)))))], none⟩,
    ⟨none, .store 3 (.t 4) (.t 26), none⟩] [0, 1] [])
  .ret)
  .skip [2, 3, 4]))
 (.seq
 (.region [⟨some 27, .fadr 1 (.t 2), none⟩,
   ⟨some 28, .load none (.t 27), none⟩,
   ⟨some 29, .fadr 2 (.t 3), none⟩,
   ⟨some 30, .load none (.t 29), none⟩,
   ⟨some 31, .bin .sub (.t 28) (.t 30), none⟩,
   ⟨some 5, .mov (.t 31), none⟩] [0, 1, 2, 3, 4, 5] [])
 (.seq
 (.seq
 (.region [⟨some 32, .fadr 1 (.t 3), none⟩,
   ⟨some 33, .load none (.t 32), none⟩] [0, 1] [])
 (.cond (.t 33)
  (.region [⟨some 34, .fadr 1 (.t 2), none⟩,
    ⟨some 35, .load none (.t 34), none⟩,
    ⟨some 36, .fadr 2 (.t 3), none⟩,
    ⟨some 37, .load none (.t 36), none⟩,
    ⟨some 38, .bin .add (.t 35) (.t 37), none⟩,
    ⟨some 5, .mov (.t 38), none⟩] [0, 1, 2, 3, 4, 5] [])
  .skip [2, 3, 4, 5]))
 (.seq
 (.seq
 (.region [⟨some 39, .mov (.t 5), none⟩,
   ⟨some 40, .bin .lss (.t 39) (.k (.v (.one (.int .i64 0)))), none⟩,
   ⟨some 41, .mov (.t 40), none⟩,
   ⟨some 42, .mov (.t 5), some (41, false)⟩,
   ⟨some 43, .bin .gtr (.t 42) (.k (.v (.one (.int .i64 1600)))), some (41, false)⟩,
   ⟨some 44, .pick (.t 41) (.k (.v (.one (.bool true)))) (.t 43), none⟩] [0, 1, 2, 3, 4, 5] [])
 (.cond (.t 44)
  (.seq
  (.region [⟨some 45, .build [(.int .i64 0), (.int .i64 0), (.int .i64 0)] [(0, 1, (.k (.v (.one (.int .i64 1)))))], none⟩,
    ⟨none, .store 3 (.t 4) (.t 45), none⟩] [0, 1] [])
  .ret)
  .skip [2, 3, 4, 5]))
 (.seq
 (.seq
 (.region [⟨some 46, .fadr 0 (.t 2), none⟩,
   ⟨some 47, .load none (.t 46), none⟩,
   ⟨some 48, .bin .eql (.t 47) (.k (.v (.one (.int .i64 2)))), none⟩,
   ⟨some 49, .mov (.t 48), none⟩,
   ⟨some 50, .fadr 1 (.t 3), some (49, true)⟩,
   ⟨some 51, .load none (.t 50), some (49, true)⟩,
   ⟨some 52, .not (.t 51), some (49, true)⟩,
   ⟨some 53, .pick (.t 49) (.t 52) (.k (.v (.one (.bool false)))), none⟩,
   ⟨some 54, .mov (.t 53), none⟩,
   ⟨some 55, .mov (.t 5), some (54, true)⟩,
   ⟨some 56, .bin .eql (.t 55) (.k (.v (.one (.int .i64 0)))), some (54, true)⟩,
   ⟨some 57, .pick (.t 54) (.t 56) (.k (.v (.one (.bool false)))), none⟩] [0, 1, 2, 3, 4, 5, 6, 7, 8, 9, 10, 11] [])
 (.cond (.t 57)
  (.seq
  (.region [⟨some 58, .build [(.int .i64 0), (.int .i64 0), (.int .i64 0)] [(0, 1, (.k (.v (.one (.int .i64 0)))))], none⟩,
    ⟨none, .store 3 (.t 4) (.t 58), none⟩] [0, 1] [])
  .ret)
  .skip [2, 4, 5]))
 (.seq
 (.region [⟨some 59, .fadr 0 (.t 2), none⟩,
   ⟨some 60, .load none (.t 59), none⟩,
   ⟨some 61, .mov (.t 5), none⟩,
   ⟨some 62, .mov (.t 5), none⟩,
   ⟨some 63, .build [(.int .i64 0), (.int .i64 0), (.int .i64 0)] [(0, 1, (.t 60)), (1, 1, (.t 61)), (2, 1, (.t 62))], none⟩,
   ⟨none, .store 3 (.t 4) (.t 63), none⟩] [0, 1, 2, 3, 4, 5] [])
 .ret)))))))⟩
theorem t19 : tell Try.prog Try.f19 [([2, 3, 4], [], []), ([2, 3, 4, 5], [], []), ([2, 3, 4, 5], [], []), ([2, 4, 5], [], [])] = some a19 := by kernel_rfl
theorem ok19 : FuncOk Try.prog 19 a19 := tell_ok Try.func19 t19

/-- railplan/railplanref30.Report -/
def a20 : AFunc := ⟨1, [2], none,
 (.seq
 (.region [⟨some 1, .box 26 3 (.t 0), none⟩,
   ⟨some 2, .mov (.k (.v (.one (.int .i64 0)))), none⟩] [0, 1] [])
 (.seq
 (.seq
 (.region [⟨some 3, .fadr 0 (.t 1), none⟩,
   ⟨some 4, .load none (.t 3), none⟩,
   ⟨some 5, .bin .neq (.t 4) (.k (.v (.one (.int .i64 0)))), none⟩,
   ⟨some 6, .mov (.t 5), none⟩,
   ⟨some 7, .load (some 3) (.t 1), some (6, false)⟩,
   ⟨some 8, .call 28 [(.t 7)], some (6, false)⟩,
   ⟨some 9, .not (.t 8), some (6, false)⟩,
   ⟨some 10, .pick (.t 6) (.k (.v (.one (.bool true)))) (.t 9), none⟩] [0, 1, 2, 3, 4, 5, 6, 7] [])
 (.cond (.t 10)
  (.seq
  (.region [⟨some 2, .mov (.k (.v (.one (.int .i64 2)))), none⟩] [0] [])
  .ret)
  .skip [1, 2]))
 (.seq
 (.seq
 (.region [⟨some 11, .fadr 1 (.t 1), none⟩,
   ⟨some 12, .load none (.t 11), none⟩,
   ⟨some 13, .bin .eql (.t 12) (.k (.v (.one (.int .i64 0)))), none⟩] [0, 1, 2] [])
 (.cond (.t 13)
  (.seq
  (.region [⟨some 2, .mov (.k (.v (.one (.int .i64 0)))), none⟩] [0] [])
  .ret)
  .skip [2]))
 (.seq
 (.region [⟨some 2, .mov (.k (.v (.one (.int .i64 1)))), none⟩] [0] [])
 .ret))))⟩
theorem t20 : tell Try.prog Try.f20 [([1, 2], [], []), ([2], [], [])] = some a20 := by kernel_rfl
theorem ok20 : FuncOk Try.prog 20 a20 := tell_ok Try.func20 t20

/-- railplan/railplanref30.Reset -/
def a21 : AFunc := ⟨1, [2], some (some 3),
 (.seq
 (.region [⟨some 1, .box 26 3 (.t 0), none⟩,
   ⟨some 2, .new 26 [(.int .i64 0), (.int .i64 0), (.int .i64 0)], none⟩] [0, 1] [])
 (.seq
 (.seq
 (.region [⟨some 3, .load (some 3) (.t 1), none⟩,
   ⟨some 4, .call 28 [(.t 3)], none⟩,
   ⟨some 5, .not (.t 4), none⟩] [0, 1, 2] [])
 (.cond (.t 5)
  (.seq
  (.region [⟨some 6, .build [(.int .i64 0), (.int .i64 0), (.int .i64 0)] [(0, 1, (.k (.v (.one (.int .i64 2)))))], none⟩,
    ⟨none, .store 3 (.t 2) (.t 6), none⟩] [0, 1] [])
  .ret)
  .skip [1, 2]))
 (.seq
 (.region [⟨some 7, .load (some 3) (.t 1), none⟩,
   ⟨none, .store 3 (.t 2) (.t 7), none⟩] [0, 1] [])
 .ret)))⟩
theorem t21 : tell Try.prog Try.f21 [([1, 2], [], [])] = some a21 := by kernel_rfl
theorem ok21 : FuncOk Try.prog 21 a21 := tell_ok Try.func21 t21

/-- railplan/railplanlaw31.pulses -/
def a22 : AFunc := ⟨1, [2], none,
 (.seq
 (.region [⟨some 2, .mov (.k (.v (.one .nils))), none⟩] [0] [])
 (.seq
 (.region [⟨some 7, .mov (.t 0), none⟩,
   ⟨some 8, .call 11 [(.t 7)], none⟩,
   ⟨some 3, .mov (.t 8), none⟩] [0, 1, 2] [])
 (.seq
 (.region [⟨some 4, .mov (.k (.v (.one .nils))), none⟩] [0] [])
 (.seq
 (.seq
 (.region [⟨some 9, .mov (.t 3), none⟩,
   ⟨some 10, .call 13 [(.t 9), (.k (.v (.one (.int .i64 12))))], none⟩,
   ⟨some 5, .mov (.t 10), none⟩] [0, 1, 2] [])
 (.block 0
  (.loop [3, 4, 5]
   (.seq
   (.seq
   (.region [⟨some 11, .mov (.t 5), none⟩,
     ⟨some 12, .bin .gtr (.t 11) (.k (.v (.one (.int .i64 0)))), none⟩] [0, 1] [])
   (.cond (.t 12)
    .skip
    (.exit 0) [3, 4, 5]))
   (.seq
   (.block 1
    (.seq
    (.region [⟨some 15, .mov (.t 3), none⟩,
      ⟨some 16, .call 13 [(.t 15), (.k (.v (.one (.int .i64 3))))], none⟩,
      ⟨some 17, .mov (.t 3), none⟩,
      ⟨some 18, .call 13 [(.t 17), (.k (.v (.one (.int .i64 2))))], none⟩,
      ⟨some 19, .bin .eql (.t 18) (.k (.v (.one (.int .i64 0)))), none⟩,
      ⟨some 20, .mov (.t 3), none⟩,
      ⟨some 21, .call 13 [(.t 20), (.k (.v (.one (.int .i64 3))))], none⟩,
      ⟨some 22, .bin .add (.k (.v (.one (.int .i64 1)))) (.t 21), none⟩,
      ⟨some 23, .build [(.int .i64 0), (.bool false), (.int .i64 0), (.int .i64 0)] [(0, 1, (.t 16)), (1, 1, (.t 19)), (2, 1, (.t 22))], none⟩,
      ⟨some 6, .new 31 [(.int .i64 0), (.bool false), (.int .i64 0), (.int .i64 0)], none⟩,
      ⟨none, .store 4 (.t 6) (.t 23), none⟩] [0, 1, 2, 3, 4, 5, 6, 7, 8, 9, 10] [])
    (.seq
    (.region [⟨some 24, .fadr 2 (.t 6), none⟩,
      ⟨some 25, .load none (.t 24), none⟩,
      ⟨some 26, .fadr 3 (.t 6), none⟩,
      ⟨none, .store 1 (.t 26) (.t 25), none⟩] [0, 1, 2, 3] [])
    (.seq
    (.seq
    (.region [⟨some 27, .mov (.t 3), none⟩,
      ⟨some 28, .call 13 [(.t 27), (.k (.v (.one (.int .i64 8))))], none⟩,
      ⟨some 29, .bin .eql (.t 28) (.k (.v (.one (.int .i64 0)))), none⟩] [0, 1, 2] [])
    (.cond (.t 29)
     (.region [⟨some 30, .mov (.t 3), none⟩,
       ⟨some 31, .call 13 [(.t 30), (.k (.v (.one (.int .i64 4))))], none⟩,
       ⟨some 32, .fadr 3 (.t 6), none⟩,
       ⟨none, .store 1 (.t 32) (.t 31), none⟩] [0, 1, 2, 3] [])
     .skip [3, 4, 5, 6]))
    (.region [⟨some 33, .mov (.t 4), none⟩,
      ⟨some 34, .load (some 4) (.t 6), none⟩,
      ⟨some 35, .bsl 31 4 1 [(.int .i64 0), (.bool false), (.int .i64 0), (.int .i64 0)] [(0, 4, (.t 34))], none⟩,
      ⟨some 36, .app 31 4 32 (.t 33) (.t 35), none⟩,
      ⟨some 4, .mov (.t 36), none⟩] [0, 1, 2, 3, 4] [])))))
   (.region [⟨some 13, .mov (.t 5), none⟩,
     ⟨some 14, .bin .sub (.t 13) (.k (.v (.one (.int .i64 1)))), none⟩,
     ⟨some 5, .mov (.t 14), none⟩] [0, 1, 2] []))))))
 (.seq
 (.region [⟨some 37, .mov (.t 4), none⟩,
   ⟨some 2, .mov (.t 37), none⟩] [0, 1] [])
 .ret)))))⟩
theorem t22 : tell Try.prog Try.f22 [([3, 4, 5], [], []), ([3, 4, 5], [], []), ([3, 4, 5, 6], [], [])] = some a22 := by kernel_rfl
theorem ok22 : FuncOk Try.prog 22 a22 := tell_ok Try.func22 t22

end Go.Proofs.Ytellgcahkpaldaa.Fn
