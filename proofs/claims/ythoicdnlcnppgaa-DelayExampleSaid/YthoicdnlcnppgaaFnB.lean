/- Functions of the program, as the abstract machine's, and that they are. Conditions: none. -/
import Derived.Test.YthoicdnlcnppgaaAmCo
import Derived.Test.YthoicdnlcnppgaaProg
set_option linter.unusedVariables false
namespace Go.Proofs.Ythoicdnlcnppgaa.Fn
open Go Go.Am
set_option maxRecDepth 100000
/-- railplan/railplanlaw34.DelayOnTime -/
def a6 : AFunc := ⟨1, [2], none,
 (.seq
 (.region [⟨some 2, .mov (.k (.v (.one (.bool false)))), none⟩] [0] [])
 (.seq
 (.region [⟨some 16, .mov (.t 0), none⟩,
   ⟨some 17, .call 12 [(.t 16)], none⟩,
   ⟨some 15, .mov (.t 17), none⟩,
   ⟨some 18, .ext 0 (.t 15), none⟩,
   ⟨some 19, .ext 1 (.t 15), none⟩,
   ⟨some 20, .ext 2 (.t 15), none⟩,
   ⟨some 3, .mov (.t 18), none⟩,
   ⟨some 4, .mov (.t 19), none⟩,
   ⟨some 5, .mov (.t 20), none⟩] [0, 1, 2, 3, 4, 5, 6, 7, 8] [])
 (.seq
 (.seq
 (.region [⟨some 21, .mov (.t 3), none⟩,
   ⟨some 22, .len (.t 21), none⟩,
   ⟨some 23, .mov (.k (.v (.one (.int .i64 0)))), none⟩] [0, 1, 2] [])
 (.block 0
  (.loop [3, 4, 22, 23]
   (.seq
   (.region [⟨some 24, .bin .lss (.t 23) (.t 22), none⟩] [0] [])
   (.seq
   (.cond (.t 24)
    .skip
    (.exit 0) [3, 4, 22, 23])
   (.seq
   (.block 1
    (.seq
    (.region [⟨some 25, .mov (.t 23), none⟩,
      ⟨some 6, .mov (.t 25), none⟩] [0, 1] [])
    (.seq
    (.region [⟨some 26, .mov (.t 4), none⟩,
      ⟨some 27, .len (.t 26), none⟩,
      ⟨some 28, .mov (.k (.v (.one (.int .i64 0)))), none⟩] [0, 1, 2] [])
    (.block 2
     (.loop [3, 4, 6, 22, 23, 26, 27, 28]
      (.seq
      (.region [⟨some 29, .bin .lss (.t 28) (.t 27), none⟩] [0] [])
      (.seq
      (.cond (.t 29)
       .skip
       (.exit 2) [3, 4, 6, 22, 23, 26, 27, 28])
      (.seq
      (.block 3
       (.seq
       (.region [⟨some 30, .iadr 4 (.t 26) (.t 28), none⟩,
         ⟨some 31, .load (some 4) (.t 30), none⟩,
         ⟨some 8, .new 35 [(.int .i64 0), (.int .i64 0), (.int .i64 0), (.int .i64 0)], none⟩,
         ⟨none, .store 4 (.t 8) (.t 31), none⟩] [0, 1, 2, 3] [])
       (.seq
       (.region [⟨some 32, .fadr 1 (.t 8), none⟩,
         ⟨some 33, .load none (.t 32), none⟩,
         ⟨some 34, .mov (.t 6), none⟩,
         ⟨some 35, .bin .eql (.t 33) (.t 34), none⟩] [0, 1, 2, 3] [])
       (.cond (.t 35)
        (.region [⟨some 36, .mov (.t 3), none⟩,
          ⟨some 37, .mov (.t 6), none⟩,
          ⟨some 38, .mov (.t 3), none⟩,
          ⟨some 39, .mov (.t 6), none⟩,
          ⟨some 40, .iadr 2 (.t 38) (.t 39), none⟩,
          ⟨some 41, .fadr 0 (.t 40), none⟩,
          ⟨some 42, .load none (.t 41), none⟩,
          ⟨some 43, .mov (.t 3), none⟩,
          ⟨some 44, .fadr 0 (.t 8), none⟩,
          ⟨some 45, .load none (.t 44), none⟩,
          ⟨some 46, .iadr 2 (.t 43) (.t 45), none⟩,
          ⟨some 47, .fadr 0 (.t 46), none⟩,
          ⟨some 48, .load none (.t 47), none⟩,
          ⟨some 49, .fadr 2 (.t 8), none⟩,
          ⟨some 50, .load none (.t 49), none⟩,
          ⟨some 51, .bin .add (.t 48) (.t 50), none⟩,
          ⟨some 52, .max2 (.t 42) (.t 51), none⟩,
          ⟨some 53, .iadr 2 (.t 36) (.t 37), none⟩,
          ⟨some 54, .fadr 0 (.t 53), none⟩,
          ⟨none, .store 1 (.t 54) (.t 52), none⟩] [0, 1, 2, 3, 4, 5, 6, 7, 8, 9, 10, 11, 12, 13, 14, 15, 16, 17, 18, 19] [])
        .skip [3, 4, 6, 22, 23, 26, 27, 28]))))
      (.region [⟨some 55, .bin .add (.t 28) (.k (.v (.one (.int .i64 1)))), none⟩,
        ⟨some 28, .mov (.t 55), none⟩] [0, 1] [])))))))))
   (.region [⟨some 56, .bin .add (.t 23) (.k (.v (.one (.int .i64 1)))), none⟩,
     ⟨some 23, .mov (.t 56), none⟩] [0, 1] [])))))))
 (.seq
 (.region [⟨some 58, .mov (.t 3), none⟩,
   ⟨some 59, .mov (.t 4), none⟩,
   ⟨some 60, .call 13 [(.t 58), (.t 59), (.k (.v (.one .nils)))], none⟩,
   ⟨some 57, .mov (.t 60), none⟩,
   ⟨some 61, .ext 0 (.t 57), none⟩,
   ⟨some 62, .ext 1 (.t 57), none⟩,
   ⟨some 63, .ext 2 (.t 57), none⟩,
   ⟨some 9, .mov (.t 61), none⟩,
   ⟨some 10, .mov (.t 62), none⟩,
   ⟨some 11, .mov (.t 63), none⟩] [0, 1, 2, 3, 4, 5, 6, 7, 8, 9] [])
 (.seq
 (.seq
 (.region [⟨some 64, .mov (.t 11), none⟩,
   ⟨some 65, .bin .neq (.t 64) (.k (.v (.one (.int .i64 0)))), none⟩,
   ⟨some 66, .mov (.t 65), none⟩,
   ⟨some 67, .mov (.t 9), some (66, false)⟩,
   ⟨some 68, .len (.t 67), some (66, false)⟩,
   ⟨some 69, .mov (.t 3), some (66, false)⟩,
   ⟨some 70, .len (.t 69), some (66, false)⟩,
   ⟨some 71, .bin .neq (.t 68) (.t 70), some (66, false)⟩,
   ⟨some 72, .pick (.t 66) (.k (.v (.one (.bool true)))) (.t 71), none⟩,
   ⟨some 73, .mov (.t 72), none⟩,
   ⟨some 74, .mov (.t 10), some (73, false)⟩,
   ⟨some 75, .len (.t 74), some (73, false)⟩,
   ⟨some 76, .mov (.t 4), some (73, false)⟩,
   ⟨some 77, .len (.t 76), some (73, false)⟩,
   ⟨some 78, .bin .neq (.t 75) (.t 77), some (73, false)⟩,
   ⟨some 79, .pick (.t 73) (.k (.v (.one (.bool true)))) (.t 78), none⟩] [0, 1, 2, 3, 4, 5, 6, 7, 8, 9, 10, 11, 12, 13, 14, 15] [])
 (.cond (.t 79)
  (.seq
  (.region [⟨some 2, .mov (.k (.v (.one (.bool false)))), none⟩] [0] [])
  .ret)
  .skip [2, 3, 9, 10]))
 (.seq
 (.seq
 (.region [⟨some 80, .mov (.t 3), none⟩,
   ⟨some 81, .len (.t 80), none⟩,
   ⟨some 82, .mov (.k (.v (.one (.int .i64 0)))), none⟩] [0, 1, 2] [])
 (.block 4
  (.loop [3, 9, 10, 81, 82]
   (.seq
   (.region [⟨some 83, .bin .lss (.t 82) (.t 81), none⟩] [0] [])
   (.seq
   (.cond (.t 83)
    .skip
    (.exit 4) [3, 9, 10, 81, 82])
   (.seq
   (.block 5
    (.seq
    (.region [⟨some 84, .mov (.t 82), none⟩,
      ⟨some 12, .mov (.t 84), none⟩] [0, 1] [])
    (.seq
    (.region [⟨some 85, .mov (.t 9), none⟩,
      ⟨some 86, .mov (.t 12), none⟩,
      ⟨some 87, .iadr 1 (.t 85) (.t 86), none⟩,
      ⟨some 88, .load none (.t 87), none⟩,
      ⟨some 89, .mov (.t 3), none⟩,
      ⟨some 90, .mov (.t 12), none⟩,
      ⟨some 91, .iadr 2 (.t 89) (.t 90), none⟩,
      ⟨some 92, .fadr 0 (.t 91), none⟩,
      ⟨some 93, .load none (.t 92), none⟩,
      ⟨some 94, .bin .gtr (.t 88) (.t 93), none⟩,
      ⟨some 95, .mov (.t 94), none⟩,
      ⟨some 96, .mov (.t 3), some (95, false)⟩,
      ⟨some 97, .mov (.t 12), some (95, false)⟩,
      ⟨some 98, .iadr 2 (.t 96) (.t 97), some (95, false)⟩,
      ⟨some 99, .fadr 1 (.t 98), some (95, false)⟩,
      ⟨some 100, .load none (.t 99), some (95, false)⟩,
      ⟨some 101, .mov (.t 100), some (95, false)⟩,
      ⟨some 102, .mov (.t 9), some (101, true)⟩,
      ⟨some 103, .mov (.t 12), some (101, true)⟩,
      ⟨some 104, .iadr 1 (.t 102) (.t 103), some (101, true)⟩,
      ⟨some 105, .load none (.t 104), some (101, true)⟩,
      ⟨some 106, .mov (.t 3), some (101, true)⟩,
      ⟨some 107, .mov (.t 12), some (101, true)⟩,
      ⟨some 108, .iadr 2 (.t 106) (.t 107), some (101, true)⟩,
      ⟨some 109, .fadr 0 (.t 108), some (101, true)⟩,
      ⟨some 110, .load none (.t 109), some (101, true)⟩,
      ⟨some 111, .bin .neq (.t 105) (.t 110), some (101, true)⟩,
      ⟨some 112, .pick (.t 101) (.t 111) (.k (.v (.one (.bool false)))), some (95, false)⟩,
      ⟨some 113, .pick (.t 95) (.k (.v (.one (.bool true)))) (.t 112), none⟩] [0, 1, 2, 3, 4, 5, 6, 7, 8, 9, 10, 11, 12, 13, 14, 15, 16, 17, 18, 19, 20, 21, 22, 23, 24, 25, 26, 27, 28] [])
    (.cond (.t 113)
     (.seq
     (.region [⟨some 2, .mov (.k (.v (.one (.bool false)))), none⟩] [0] [])
     .ret)
     .skip [2, 3, 9, 10, 81, 82]))))
   (.region [⟨some 114, .bin .add (.t 82) (.k (.v (.one (.int .i64 1)))), none⟩,
     ⟨some 82, .mov (.t 114), none⟩] [0, 1] [])))))))
 (.seq
 (.seq
 (.region [⟨some 115, .mov (.t 10), none⟩,
   ⟨some 116, .len (.t 115), none⟩,
   ⟨some 117, .mov (.k (.v (.one (.int .i64 0)))), none⟩] [0, 1, 2] [])
 (.block 6
  (.loop [115, 116, 117]
   (.seq
   (.region [⟨some 118, .bin .lss (.t 117) (.t 116), none⟩] [0] [])
   (.seq
   (.cond (.t 118)
    .skip
    (.exit 6) [115, 116, 117])
   (.seq
   (.block 7
    (.seq
    (.region [⟨some 119, .iadr 1 (.t 115) (.t 117), none⟩,
      ⟨some 120, .load none (.t 119), none⟩,
      ⟨some 14, .mov (.t 120), none⟩] [0, 1, 2] [])
    (.seq
    (.region [⟨some 121, .mov (.t 14), none⟩,
      ⟨some 122, .not (.t 121), none⟩] [0, 1] [])
    (.cond (.t 122)
     (.seq
     (.region [⟨some 2, .mov (.k (.v (.one (.bool false)))), none⟩] [0] [])
     .ret)
     .skip [2, 115, 116, 117]))))
   (.region [⟨some 123, .bin .add (.t 117) (.k (.v (.one (.int .i64 1)))), none⟩,
     ⟨some 117, .mov (.t 123), none⟩] [0, 1] [])))))))
 (.seq
 (.region [⟨some 124, .call 14 [], none⟩,
   ⟨some 2, .mov (.t 124), none⟩] [0, 1] [])
 .ret))))))))⟩
theorem t6 : tell Try.prog Try.f6 [([3, 4, 22, 23], [], []), ([3, 4, 22, 23], [], []), ([3, 4, 6, 22, 23, 26, 27, 28], [], []), ([3, 4, 6, 22, 23, 26, 27, 28], [], []), ([3, 4, 6, 22, 23, 26, 27, 28], [], []), ([0, 1, 2, 3, 4, 5, 6, 7, 8, 9, 10, 11, 12, 13, 14, 15, 16, 17, 18, 19], [], [0, 0, 0, 0, 12, 28, 60, 0, 0, 256, 896, 1920, 3968, 0, 8192, 32640, 65532, 131071, 262143, 524287]), ([2, 3, 9, 10], [], []), ([3, 9, 10, 81, 82], [], []), ([3, 9, 10, 81, 82], [], []), ([0, 1, 2, 3, 4, 5, 6, 7, 8, 9, 10, 11, 12, 13, 14, 15, 16, 17, 18, 19, 20, 21, 22, 23, 24, 25, 26, 27, 28], [], [0, 0, 3, 7, 0, 0, 48, 112, 240, 511, 1023, 2047, 2047, 8191, 16383, 32767, 65535, 131071, 131071, 524287, 1048575, 131071, 131071, 6422527, 14811135, 31588351, 67108863, 134217727, 268435455]), ([2, 3, 9, 10, 81, 82], [], []), ([115, 116, 117], [], []), ([115, 116, 117], [], []), ([2, 115, 116, 117], [], [])] = some a6 := by kernel_rfl
theorem ok6 : FuncOk Try.prog 6 a6 := tell_ok Try.func6 t6

/-- railplan/railplanlaw34.DelayLateness -/
def a7 : AFunc := ⟨3, [6], none,
 (.seq
 (.region [⟨some 6, .mov (.k (.v (.one (.bool false)))), none⟩] [0] [])
 (.seq
 (.region [⟨some 20, .mov (.t 1), none⟩,
   ⟨some 21, .call 12 [(.t 20)], none⟩,
   ⟨some 19, .mov (.t 21), none⟩,
   ⟨some 22, .ext 0 (.t 19), none⟩,
   ⟨some 23, .ext 1 (.t 19), none⟩,
   ⟨some 24, .ext 2 (.t 19), none⟩,
   ⟨some 7, .mov (.t 22), none⟩,
   ⟨some 8, .mov (.t 23), none⟩,
   ⟨some 9, .mov (.t 24), none⟩] [0, 1, 2, 3, 4, 5, 6, 7, 8] [])
 (.seq
 (.region [⟨some 26, .mov (.t 7), none⟩,
   ⟨some 27, .mov (.t 8), none⟩,
   ⟨some 28, .mov (.t 9), none⟩,
   ⟨some 29, .call 16 [(.t 26), (.t 27), (.t 28)], none⟩,
   ⟨some 25, .mov (.t 29), none⟩,
   ⟨some 30, .ext 0 (.t 25), none⟩,
   ⟨some 31, .ext 1 (.t 25), none⟩,
   ⟨some 32, .ext 2 (.t 25), none⟩,
   ⟨some 10, .mov (.t 30), none⟩,
   ⟨some 11, .mov (.t 31), none⟩,
   ⟨some 12, .mov (.t 32), none⟩] [0, 1, 2, 3, 4, 5, 6, 7, 8, 9, 10] [])
 (.seq
 (.region [⟨some 34, .mov (.t 7), none⟩,
   ⟨some 35, .mov (.t 10), none⟩,
   ⟨some 36, .call 17 [(.t 34), (.t 35)], none⟩,
   ⟨some 33, .mov (.t 36), none⟩,
   ⟨some 37, .ext 0 (.t 33), none⟩,
   ⟨some 38, .ext 1 (.t 33), none⟩,
   ⟨some 13, .mov (.t 37), none⟩,
   ⟨some 14, .mov (.t 38), none⟩] [0, 1, 2, 3, 4, 5, 6, 7] [])
 (.seq
 (.region [⟨some 40, .mov (.t 7), none⟩,
   ⟨some 41, .mov (.t 10), none⟩,
   ⟨some 42, .call 18 [(.t 40), (.t 41)], none⟩,
   ⟨some 39, .mov (.t 42), none⟩,
   ⟨some 43, .ext 0 (.t 39), none⟩,
   ⟨some 44, .ext 1 (.t 39), none⟩,
   ⟨some 15, .mov (.t 43), none⟩,
   ⟨some 16, .mov (.t 44), none⟩] [0, 1, 2, 3, 4, 5, 6, 7] [])
 (.seq
 (.region [⟨some 46, .mov (.t 0), none⟩,
   ⟨some 47, .mov (.t 2), none⟩,
   ⟨some 48, .call 17 [(.t 46), (.t 47)], none⟩,
   ⟨some 45, .mov (.t 48), none⟩,
   ⟨some 49, .ext 0 (.t 45), none⟩,
   ⟨some 50, .ext 1 (.t 45), none⟩,
   ⟨some 17, .mov (.t 49), none⟩,
   ⟨some 18, .mov (.t 50), none⟩] [0, 1, 2, 3, 4, 5, 6, 7] [])
 (.seq
 (.region [⟨some 51, .call 14 [], none⟩,
   ⟨some 52, .mov (.t 51), none⟩,
   ⟨some 53, .mov (.t 14), some (52, true)⟩,
   ⟨some 54, .bin .eql (.t 53) (.k (.v (.one (.int .i64 0)))), some (52, true)⟩,
   ⟨some 55, .pick (.t 52) (.t 54) (.k (.v (.one (.bool false)))), none⟩,
   ⟨some 56, .mov (.t 55), none⟩,
   ⟨some 57, .mov (.t 16), some (56, true)⟩,
   ⟨some 58, .bin .eql (.t 57) (.k (.v (.one (.int .i64 0)))), some (56, true)⟩,
   ⟨some 59, .pick (.t 56) (.t 58) (.k (.v (.one (.bool false)))), none⟩,
   ⟨some 60, .mov (.t 59), none⟩,
   ⟨some 61, .mov (.t 13), some (60, true)⟩,
   ⟨some 62, .mov (.t 15), some (60, true)⟩,
   ⟨some 63, .call 19 [(.t 61), (.t 62)], some (60, true)⟩,
   ⟨some 64, .pick (.t 60) (.t 63) (.k (.v (.one (.bool false)))), none⟩,
   ⟨some 65, .mov (.t 64), none⟩,
   ⟨some 66, .mov (.t 0), some (65, true)⟩,
   ⟨some 67, .len (.t 66), some (65, true)⟩,
   ⟨some 68, .mov (.t 2), some (65, true)⟩,
   ⟨some 69, .len (.t 68), some (65, true)⟩,
   ⟨some 70, .bin .eql (.t 67) (.t 69), some (65, true)⟩,
   ⟨some 71, .mov (.t 18), some (65, true)⟩,
   ⟨some 72, .bin .eql (.t 71) (.k (.v (.one (.int .i64 0)))), some (65, true)⟩,
   ⟨some 73, .eqb false (.t 70) (.t 72), some (65, true)⟩,
   ⟨some 74, .pick (.t 65) (.t 73) (.k (.v (.one (.bool false)))), none⟩,
   ⟨some 75, .mov (.t 74), none⟩,
   ⟨some 76, .mov (.t 18), some (75, true)⟩,
   ⟨some 77, .bin .eql (.t 76) (.k (.v (.one (.int .i64 0)))), some (75, true)⟩,
   ⟨some 78, .mov (.t 77), some (75, true)⟩,
   ⟨some 79, .mov (.t 18), some (78, false)⟩,
   ⟨some 80, .bin .eql (.t 79) (.k (.v (.one (.int .i64 1)))), some (78, false)⟩,
   ⟨some 81, .pick (.t 78) (.k (.v (.one (.bool true)))) (.t 80), some (75, true)⟩,
   ⟨some 82, .pick (.t 75) (.t 81) (.k (.v (.one (.bool false)))), none⟩,
   ⟨some 6, .mov (.t 82), none⟩] [0, 1, 2, 3, 4, 5, 6, 7, 8, 9, 10, 11, 12, 13, 14, 15, 16, 17, 18, 19, 20, 21, 22, 23, 24, 25, 26, 27, 28, 29, 30, 31, 32] [])
 .ret)))))))⟩
theorem t7 : tell Try.prog Try.f7 [] = some a7 := by kernel_rfl
theorem ok7 : FuncOk Try.prog 7 a7 := tell_ok Try.func7 t7

/-- railplan/railplanlaw34.DelayRaw -/
def a8 : AFunc := ⟨4, [8], none,
 (.seq
 (.region [⟨some 8, .mov (.k (.v (.one (.bool false)))), none⟩] [0] [])
 (.seq
 (.region [⟨some 20, .mov (.t 0), none⟩,
   ⟨some 21, .mov (.t 1), none⟩,
   ⟨some 22, .mov (.t 2), none⟩,
   ⟨some 23, .call 13 [(.t 20), (.t 21), (.t 22)], none⟩,
   ⟨some 19, .mov (.t 23), none⟩,
   ⟨some 24, .ext 0 (.t 19), none⟩,
   ⟨some 25, .ext 1 (.t 19), none⟩,
   ⟨some 26, .ext 2 (.t 19), none⟩,
   ⟨some 9, .mov (.t 24), none⟩,
   ⟨some 10, .mov (.t 25), none⟩,
   ⟨some 11, .mov (.t 26), none⟩] [0, 1, 2, 3, 4, 5, 6, 7, 8, 9, 10] [])
 (.seq
 (.region [⟨some 28, .mov (.t 0), none⟩,
   ⟨some 29, .mov (.t 1), none⟩,
   ⟨some 30, .mov (.t 2), none⟩,
   ⟨some 31, .call 16 [(.t 28), (.t 29), (.t 30)], none⟩,
   ⟨some 27, .mov (.t 31), none⟩,
   ⟨some 32, .ext 0 (.t 27), none⟩,
   ⟨some 33, .ext 1 (.t 27), none⟩,
   ⟨some 34, .ext 2 (.t 27), none⟩,
   ⟨some 12, .mov (.t 32), none⟩,
   ⟨some 13, .mov (.t 33), none⟩,
   ⟨some 14, .mov (.t 34), none⟩] [0, 1, 2, 3, 4, 5, 6, 7, 8, 9, 10] [])
 (.seq
 (.region [⟨some 36, .mov (.t 0), none⟩,
   ⟨some 37, .mov (.t 1), none⟩,
   ⟨some 38, .mov (.t 2), none⟩,
   ⟨some 39, .mov (.t 3), none⟩,
   ⟨some 40, .call 20 [(.t 36), (.t 37), (.t 38), (.t 39)], none⟩,
   ⟨some 35, .mov (.t 40), none⟩,
   ⟨some 41, .ext 0 (.t 35), none⟩,
   ⟨some 42, .ext 1 (.t 35), none⟩,
   ⟨some 15, .mov (.t 41), none⟩,
   ⟨some 16, .mov (.t 42), none⟩] [0, 1, 2, 3, 4, 5, 6, 7, 8, 9] [])
 (.seq
 (.region [⟨some 44, .mov (.t 0), none⟩,
   ⟨some 45, .mov (.t 1), none⟩,
   ⟨some 46, .mov (.t 2), none⟩,
   ⟨some 47, .mov (.t 3), none⟩,
   ⟨some 48, .call 21 [(.t 44), (.t 45), (.t 46), (.t 47)], none⟩,
   ⟨some 43, .mov (.t 48), none⟩,
   ⟨some 49, .ext 0 (.t 43), none⟩,
   ⟨some 50, .ext 1 (.t 43), none⟩,
   ⟨some 17, .mov (.t 49), none⟩,
   ⟨some 18, .mov (.t 50), none⟩] [0, 1, 2, 3, 4, 5, 6, 7, 8, 9] [])
 (.seq
 (.region [⟨some 51, .call 14 [], none⟩,
   ⟨some 52, .mov (.t 51), none⟩,
   ⟨some 53, .mov (.t 0), some (52, true)⟩,
   ⟨some 54, .mov (.t 1), some (52, true)⟩,
   ⟨some 55, .mov (.t 2), some (52, true)⟩,
   ⟨some 56, .call 22 [(.t 53), (.t 54), (.t 55)], some (52, true)⟩,
   ⟨some 57, .mov (.t 0), some (52, true)⟩,
   ⟨some 58, .mov (.t 1), some (52, true)⟩,
   ⟨some 59, .mov (.t 2), some (52, true)⟩,
   ⟨some 60, .call 23 [(.t 57), (.t 58), (.t 59)], some (52, true)⟩,
   ⟨some 61, .eqb false (.t 56) (.t 60), some (52, true)⟩,
   ⟨some 62, .pick (.t 52) (.t 61) (.k (.v (.one (.bool false)))), none⟩,
   ⟨some 63, .mov (.t 62), none⟩,
   ⟨some 64, .mov (.t 9), some (63, true)⟩,
   ⟨some 65, .mov (.t 12), some (63, true)⟩,
   ⟨some 66, .call 19 [(.t 64), (.t 65)], some (63, true)⟩,
   ⟨some 67, .pick (.t 63) (.t 66) (.k (.v (.one (.bool false)))), none⟩,
   ⟨some 68, .mov (.t 67), none⟩,
   ⟨some 69, .mov (.t 10), some (68, true)⟩,
   ⟨some 70, .mov (.t 13), some (68, true)⟩,
   ⟨some 71, .call 24 [(.t 69), (.t 70)], some (68, true)⟩,
   ⟨some 72, .pick (.t 68) (.t 71) (.k (.v (.one (.bool false)))), none⟩,
   ⟨some 73, .mov (.t 72), none⟩,
   ⟨some 74, .mov (.t 11), some (73, true)⟩,
   ⟨some 75, .mov (.t 14), some (73, true)⟩,
   ⟨some 76, .bin .eql (.t 74) (.t 75), some (73, true)⟩,
   ⟨some 77, .pick (.t 73) (.t 76) (.k (.v (.one (.bool false)))), none⟩,
   ⟨some 78, .mov (.t 77), none⟩,
   ⟨some 79, .mov (.t 15), some (78, true)⟩,
   ⟨some 80, .mov (.t 17), some (78, true)⟩,
   ⟨some 81, .call 19 [(.t 79), (.t 80)], some (78, true)⟩,
   ⟨some 82, .pick (.t 78) (.t 81) (.k (.v (.one (.bool false)))), none⟩,
   ⟨some 83, .mov (.t 82), none⟩,
   ⟨some 84, .mov (.t 16), some (83, true)⟩,
   ⟨some 85, .mov (.t 18), some (83, true)⟩,
   ⟨some 86, .bin .eql (.t 84) (.t 85), some (83, true)⟩,
   ⟨some 87, .pick (.t 83) (.t 86) (.k (.v (.one (.bool false)))), none⟩,
   ⟨some 8, .mov (.t 87), none⟩] [0, 1, 2, 3, 4, 5, 6, 7, 8, 9, 10, 11, 12, 13, 14, 15, 16, 17, 18, 19, 20, 21, 22, 23, 24, 25, 26, 27, 28, 29, 30, 31, 32, 33, 34, 35, 36, 37] [])
 .ret))))))⟩
theorem t8 : tell Try.prog Try.f8 [] = some a8 := by kernel_rfl
theorem ok8 : FuncOk Try.prog 8 a8 := tell_ok Try.func8 t8

/-- railplan/railplanlaw34.DelayMade -/
def a9 : AFunc := ⟨4, [8], none,
 (.seq
 (.region [⟨some 8, .mov (.k (.v (.one (.bool false)))), none⟩] [0] [])
 (.seq
 (.region [⟨some 25, .mov (.t 0), none⟩,
   ⟨some 26, .call 12 [(.t 25)], none⟩,
   ⟨some 24, .mov (.t 26), none⟩,
   ⟨some 27, .ext 0 (.t 24), none⟩,
   ⟨some 28, .ext 1 (.t 24), none⟩,
   ⟨some 29, .ext 2 (.t 24), none⟩,
   ⟨some 9, .mov (.t 27), none⟩,
   ⟨some 10, .mov (.t 28), none⟩,
   ⟨some 11, .mov (.t 29), none⟩] [0, 1, 2, 3, 4, 5, 6, 7, 8] [])
 (.seq
 (.seq
 (.region [⟨some 30, .mov (.t 9), none⟩,
   ⟨some 31, .mov (.t 10), none⟩,
   ⟨some 32, .mov (.t 11), none⟩,
   ⟨some 33, .call 22 [(.t 30), (.t 31), (.t 32)], none⟩,
   ⟨some 34, .not (.t 33), none⟩] [0, 1, 2, 3, 4] [])
 (.cond (.t 34)
  (.seq
  (.region [⟨some 8, .mov (.k (.v (.one (.bool false)))), none⟩] [0] [])
  .ret)
  .skip [1, 2, 3, 8, 9, 10, 11]))
 (.seq
 (.seq
 (.region [⟨some 35, .mov (.t 1), none⟩,
   ⟨some 36, .call 15 [(.t 35), (.k (.v (.one (.int .i64 7))))], none⟩] [0, 1] [])
 (.block 0
  (.seq
  (.region [⟨some 38, .bin .eql (.t 36) (.k (.v (.one (.int .i64 0)))), none⟩,
    ⟨some 37, .mov (.t 38), none⟩] [0, 1] [])
  (.cond (.t 37)
   (.seq
   (.region [⟨some 39, .mov (.t 10), none⟩,
     ⟨some 40, .len (.t 39), none⟩,
     ⟨some 41, .bin .gtr (.t 40) (.k (.v (.one (.int .i64 0)))), none⟩] [0, 1, 2] [])
   (.cond (.t 41)
    (.seq
    (.region [⟨some 42, .mov (.t 10), none⟩,
      ⟨some 43, .mov (.t 2), none⟩,
      ⟨some 44, .mov (.t 10), none⟩,
      ⟨some 45, .len (.t 44), none⟩,
      ⟨some 46, .call 15 [(.t 43), (.t 45)], none⟩,
      ⟨some 47, .iadr 4 (.t 42) (.t 46), none⟩,
      ⟨some 12, .mov (.t 47), none⟩] [0, 1, 2, 3, 4, 5, 6] [])
    (.region [⟨some 48, .mov (.t 12), none⟩,
      ⟨some 49, .mov (.t 12), none⟩,
      ⟨some 50, .mov (.t 12), none⟩,
      ⟨some 51, .nilchk (.t 50), none⟩,
      ⟨some 52, .fadr 1 (.t 51), none⟩,
      ⟨some 53, .load none (.t 52), none⟩,
      ⟨some 54, .mov (.t 12), none⟩,
      ⟨some 55, .nilchk (.t 54), none⟩,
      ⟨some 56, .fadr 0 (.t 55), none⟩,
      ⟨some 57, .load none (.t 56), none⟩,
      ⟨some 58, .nilchk (.t 48), none⟩,
      ⟨some 59, .fadr 0 (.t 58), none⟩,
      ⟨none, .store 1 (.t 59) (.t 53), none⟩,
      ⟨some 60, .nilchk (.t 49), none⟩,
      ⟨some 61, .fadr 1 (.t 60), none⟩,
      ⟨none, .store 1 (.t 61) (.t 57), none⟩] [0, 1, 2, 3, 4, 5, 6, 7, 8, 9, 10, 11, 12, 13, 14, 15] []))
    .skip [9, 10, 11]))
   (.seq
   (.region [⟨some 63, .bin .eql (.t 36) (.k (.v (.one (.int .i64 1)))), none⟩,
     ⟨some 62, .mov (.t 63), none⟩] [0, 1] [])
   (.cond (.t 62)
    (.region [⟨some 64, .mov (.t 10), none⟩,
      ⟨some 65, .mov (.t 2), none⟩,
      ⟨some 66, .mov (.t 9), none⟩,
      ⟨some 67, .len (.t 66), none⟩,
      ⟨some 68, .bin .add (.t 67) (.k (.v (.one (.int .i64 1)))), none⟩,
      ⟨some 69, .call 15 [(.t 65), (.t 68)], none⟩,
      ⟨some 70, .mov (.t 3), none⟩,
      ⟨some 71, .mov (.t 9), none⟩,
      ⟨some 72, .len (.t 71), none⟩,
      ⟨some 73, .bin .add (.t 72) (.k (.v (.one (.int .i64 1)))), none⟩,
      ⟨some 74, .call 15 [(.t 70), (.t 73)], none⟩,
      ⟨some 75, .build [(.int .i64 0), (.int .i64 0), (.int .i64 0), (.int .i64 0)] [(0, 1, (.t 69)), (1, 1, (.t 74)), (3, 1, (.k (.v (.one (.int .i64 (-1))))))], none⟩,
      ⟨some 76, .bsl 35 4 1 [(.int .i64 0), (.int .i64 0), (.int .i64 0), (.int .i64 0)] [(0, 4, (.t 75))], none⟩,
      ⟨some 77, .app 35 4 32 (.t 64) (.t 76), none⟩,
      ⟨some 10, .mov (.t 77), none⟩] [0, 1, 2, 3, 4, 5, 6, 7, 8, 9, 10, 11, 12, 13, 14] [])
    (.seq
    (.region [⟨some 79, .bin .eql (.t 36) (.k (.v (.one (.int .i64 2)))), none⟩,
      ⟨some 78, .mov (.t 79), none⟩] [0, 1] [])
    (.cond (.t 78)
     (.region [⟨some 80, .mov (.t 11), none⟩,
       ⟨some 81, .mov (.t 2), none⟩,
       ⟨some 82, .mov (.t 9), none⟩,
       ⟨some 83, .len (.t 82), none⟩,
       ⟨some 84, .bin .add (.t 83) (.k (.v (.one (.int .i64 2)))), none⟩,
       ⟨some 85, .call 15 [(.t 81), (.t 84)], none⟩,
       ⟨some 86, .bin .sub (.t 85) (.k (.v (.one (.int .i64 1)))), none⟩,
       ⟨some 87, .mov (.t 3), none⟩,
       ⟨some 88, .call 15 [(.t 87), (.k (.v (.one (.int .i64 9))))], none⟩,
       ⟨some 89, .build [(.int .i64 0), (.int .i64 0)] [(0, 1, (.t 86)), (1, 1, (.t 88))], none⟩,
       ⟨some 90, .bsl 39 2 1 [(.int .i64 0), (.int .i64 0)] [(0, 2, (.t 89))], none⟩,
       ⟨some 91, .app 39 2 16 (.t 80) (.t 90), none⟩,
       ⟨some 11, .mov (.t 91), none⟩] [0, 1, 2, 3, 4, 5, 6, 7, 8, 9, 10, 11, 12] [])
     (.seq
     (.region [⟨some 93, .bin .eql (.t 36) (.k (.v (.one (.int .i64 3)))), none⟩,
       ⟨some 92, .mov (.t 93), none⟩] [0, 1] [])
     (.cond (.t 92)
      (.region [⟨some 94, .mov (.t 9), none⟩,
        ⟨some 95, .mov (.t 2), none⟩,
        ⟨some 96, .mov (.t 9), none⟩,
        ⟨some 97, .len (.t 96), none⟩,
        ⟨some 98, .call 15 [(.t 95), (.t 97)], none⟩,
        ⟨some 99, .mov (.t 3), none⟩,
        ⟨some 100, .call 15 [(.t 99), (.k (.v (.one (.int .i64 300))))], none⟩,
        ⟨some 101, .bin .sub (.t 100) (.k (.v (.one (.int .i64 1)))), none⟩,
        ⟨some 102, .iadr 2 (.t 94) (.t 98), none⟩,
        ⟨some 103, .fadr 0 (.t 102), none⟩,
        ⟨none, .store 1 (.t 103) (.t 101), none⟩] [0, 1, 2, 3, 4, 5, 6, 7, 8, 9, 10] [])
      .skip [9, 10, 11])) [9, 10, 11])) [9, 10, 11])) [9, 10, 11]))))
 (.seq
 (.region [⟨some 105, .mov (.t 9), none⟩,
   ⟨some 106, .mov (.t 10), none⟩,
   ⟨some 107, .mov (.t 11), none⟩,
   ⟨some 108, .call 13 [(.t 105), (.t 106), (.t 107)], none⟩,
   ⟨some 104, .mov (.t 108), none⟩,
   ⟨some 109, .ext 0 (.t 104), none⟩,
   ⟨some 110, .ext 1 (.t 104), none⟩,
   ⟨some 111, .ext 2 (.t 104), none⟩,
   ⟨some 13, .mov (.t 109), none⟩,
   ⟨some 14, .mov (.t 110), none⟩,
   ⟨some 15, .mov (.t 111), none⟩] [0, 1, 2, 3, 4, 5, 6, 7, 8, 9, 10] [])
 (.seq
 (.region [⟨some 113, .mov (.t 9), none⟩,
   ⟨some 114, .mov (.t 10), none⟩,
   ⟨some 115, .mov (.t 11), none⟩,
   ⟨some 116, .call 16 [(.t 113), (.t 114), (.t 115)], none⟩,
   ⟨some 112, .mov (.t 116), none⟩,
   ⟨some 117, .ext 0 (.t 112), none⟩,
   ⟨some 118, .ext 1 (.t 112), none⟩,
   ⟨some 119, .ext 2 (.t 112), none⟩,
   ⟨some 16, .mov (.t 117), none⟩,
   ⟨some 17, .mov (.t 118), none⟩,
   ⟨some 18, .mov (.t 119), none⟩] [0, 1, 2, 3, 4, 5, 6, 7, 8, 9, 10] [])
 (.seq
 (.seq
 (.region [⟨some 120, .mov (.t 9), none⟩,
   ⟨some 121, .len (.t 120), none⟩,
   ⟨some 122, .mov (.k (.v (.one (.int .i64 0)))), none⟩] [0, 1, 2] [])
 (.block 1
  (.loop [9, 10, 11, 13, 14, 15, 16, 17, 18, 121, 122]
   (.seq
   (.region [⟨some 123, .bin .lss (.t 122) (.t 121), none⟩] [0] [])
   (.seq
   (.cond (.t 123)
    .skip
    (.exit 1) [9, 10, 11, 13, 14, 15, 16, 17, 18, 121, 122])
   (.seq
   (.block 2
    (.seq
    (.region [⟨some 124, .mov (.t 122), none⟩,
      ⟨some 19, .mov (.t 124), none⟩] [0, 1] [])
    (.seq
    (.region [⟨some 126, .mov (.t 9), none⟩,
      ⟨some 127, .mov (.t 10), none⟩,
      ⟨some 128, .mov (.t 11), none⟩,
      ⟨some 129, .mov (.t 19), none⟩,
      ⟨some 130, .call 20 [(.t 126), (.t 127), (.t 128), (.t 129)], none⟩,
      ⟨some 125, .mov (.t 130), none⟩,
      ⟨some 131, .ext 0 (.t 125), none⟩,
      ⟨some 132, .ext 1 (.t 125), none⟩,
      ⟨some 20, .mov (.t 131), none⟩,
      ⟨some 21, .mov (.t 132), none⟩] [0, 1, 2, 3, 4, 5, 6, 7, 8, 9] [])
    (.seq
    (.region [⟨some 134, .mov (.t 9), none⟩,
      ⟨some 135, .mov (.t 10), none⟩,
      ⟨some 136, .mov (.t 11), none⟩,
      ⟨some 137, .mov (.t 19), none⟩,
      ⟨some 138, .call 21 [(.t 134), (.t 135), (.t 136), (.t 137)], none⟩,
      ⟨some 133, .mov (.t 138), none⟩,
      ⟨some 139, .ext 0 (.t 133), none⟩,
      ⟨some 140, .ext 1 (.t 133), none⟩,
      ⟨some 22, .mov (.t 139), none⟩,
      ⟨some 23, .mov (.t 140), none⟩] [0, 1, 2, 3, 4, 5, 6, 7, 8, 9] [])
    (.seq
    (.region [⟨some 141, .mov (.t 20), none⟩,
      ⟨some 142, .mov (.t 22), none⟩,
      ⟨some 143, .call 19 [(.t 141), (.t 142)], none⟩,
      ⟨some 144, .not (.t 143), none⟩,
      ⟨some 145, .mov (.t 144), none⟩,
      ⟨some 146, .mov (.t 21), some (145, false)⟩,
      ⟨some 147, .mov (.t 23), some (145, false)⟩,
      ⟨some 148, .bin .neq (.t 146) (.t 147), some (145, false)⟩,
      ⟨some 149, .pick (.t 145) (.k (.v (.one (.bool true)))) (.t 148), none⟩] [0, 1, 2, 3, 4, 5, 6, 7, 8] [])
    (.cond (.t 149)
     (.seq
     (.region [⟨some 8, .mov (.k (.v (.one (.bool false)))), none⟩] [0] [])
     .ret)
     .skip [8, 9, 10, 11, 13, 14, 15, 16, 17, 18, 121, 122]))))))
   (.region [⟨some 150, .bin .add (.t 122) (.k (.v (.one (.int .i64 1)))), none⟩,
     ⟨some 122, .mov (.t 150), none⟩] [0, 1] [])))))))
 (.seq
 (.region [⟨some 151, .call 14 [], none⟩,
   ⟨some 152, .mov (.t 151), none⟩,
   ⟨some 153, .mov (.t 9), some (152, true)⟩,
   ⟨some 154, .mov (.t 10), some (152, true)⟩,
   ⟨some 155, .mov (.t 11), some (152, true)⟩,
   ⟨some 156, .call 22 [(.t 153), (.t 154), (.t 155)], some (152, true)⟩,
   ⟨some 157, .mov (.t 9), some (152, true)⟩,
   ⟨some 158, .mov (.t 10), some (152, true)⟩,
   ⟨some 159, .mov (.t 11), some (152, true)⟩,
   ⟨some 160, .call 23 [(.t 157), (.t 158), (.t 159)], some (152, true)⟩,
   ⟨some 161, .eqb false (.t 156) (.t 160), some (152, true)⟩,
   ⟨some 162, .pick (.t 152) (.t 161) (.k (.v (.one (.bool false)))), none⟩,
   ⟨some 163, .mov (.t 162), none⟩,
   ⟨some 164, .mov (.t 13), some (163, true)⟩,
   ⟨some 165, .mov (.t 16), some (163, true)⟩,
   ⟨some 166, .call 19 [(.t 164), (.t 165)], some (163, true)⟩,
   ⟨some 167, .pick (.t 163) (.t 166) (.k (.v (.one (.bool false)))), none⟩,
   ⟨some 168, .mov (.t 167), none⟩,
   ⟨some 169, .mov (.t 14), some (168, true)⟩,
   ⟨some 170, .mov (.t 17), some (168, true)⟩,
   ⟨some 171, .call 24 [(.t 169), (.t 170)], some (168, true)⟩,
   ⟨some 172, .pick (.t 168) (.t 171) (.k (.v (.one (.bool false)))), none⟩,
   ⟨some 173, .mov (.t 172), none⟩,
   ⟨some 174, .mov (.t 15), some (173, true)⟩,
   ⟨some 175, .mov (.t 18), some (173, true)⟩,
   ⟨some 176, .bin .eql (.t 174) (.t 175), some (173, true)⟩,
   ⟨some 177, .pick (.t 173) (.t 176) (.k (.v (.one (.bool false)))), none⟩,
   ⟨some 8, .mov (.t 177), none⟩] [0, 1, 2, 3, 4, 5, 6, 7, 8, 9, 10, 11, 12, 13, 14, 15, 16, 17, 18, 19, 20, 21, 22, 23, 24, 25, 26, 27] [])
 .ret))))))))⟩
theorem t9 : tell Try.prog Try.f9 [([1, 2, 3, 8, 9, 10, 11], [], []), ([9, 10, 11], [], []), ([9, 10, 11], [], []), ([0, 1, 2, 3, 4, 5, 6, 7, 8, 9, 10, 11, 12, 13, 14, 15], [], [0, 0, 0, 4, 12, 28, 0, 64, 192, 448, 1021, 2045, 4093, 8191, 16383, 32767]), ([9, 10, 11], [], []), ([9, 10, 11], [], []), ([9, 10, 11], [], []), ([9, 10, 11, 13, 14, 15, 16, 17, 18, 121, 122], [], []), ([9, 10, 11, 13, 14, 15, 16, 17, 18, 121, 122], [], []), ([8, 9, 10, 11, 13, 14, 15, 16, 17, 18, 121, 122], [], [])] = some a9 := by kernel_rfl
theorem ok9 : FuncOk Try.prog 9 a9 := tell_ok Try.func9 t9

end Go.Proofs.Ythoicdnlcnppgaa.Fn
