/- Functions of the program, as the abstract machine's, and that they are. Conditions: none. -/
import Derived.Test.YthoicdnlcnppgaaAmCo
import Derived.Test.YthoicdnlcnppgaaProg
set_option linter.unusedVariables false
namespace Go.Proofs.Ythoicdnlcnppgaa.Fn
open Go Go.Am
set_option maxRecDepth 100000
/-- railplan/railplanlaw34.DelayWaits -/
def a3 : AFunc := ⟨1, [2], none,
 (.seq
 (.region [⟨some 2, .mov (.k (.v (.one (.bool false)))), none⟩] [0] [])
 (.seq
 (.region [⟨some 14, .mov (.t 0), none⟩,
   ⟨some 15, .call 12 [(.t 14)], none⟩,
   ⟨some 13, .mov (.t 15), none⟩,
   ⟨some 16, .ext 0 (.t 13), none⟩,
   ⟨some 17, .ext 1 (.t 13), none⟩,
   ⟨some 18, .ext 2 (.t 13), none⟩,
   ⟨some 3, .mov (.t 16), none⟩,
   ⟨some 4, .mov (.t 17), none⟩,
   ⟨some 5, .mov (.t 18), none⟩] [0, 1, 2, 3, 4, 5, 6, 7, 8] [])
 (.seq
 (.region [⟨some 20, .mov (.t 3), none⟩,
   ⟨some 21, .mov (.t 4), none⟩,
   ⟨some 22, .mov (.t 5), none⟩,
   ⟨some 23, .call 13 [(.t 20), (.t 21), (.t 22)], none⟩,
   ⟨some 19, .mov (.t 23), none⟩,
   ⟨some 24, .ext 0 (.t 19), none⟩,
   ⟨some 25, .ext 1 (.t 19), none⟩,
   ⟨some 26, .ext 2 (.t 19), none⟩,
   ⟨some 6, .mov (.t 24), none⟩,
   ⟨some 7, .mov (.t 25), none⟩,
   ⟨some 8, .mov (.t 26), none⟩] [0, 1, 2, 3, 4, 5, 6, 7, 8, 9, 10] [])
 (.seq
 (.seq
 (.region [⟨some 27, .mov (.t 8), none⟩,
   ⟨some 28, .bin .neq (.t 27) (.k (.v (.one (.int .i64 0)))), none⟩,
   ⟨some 29, .mov (.t 28), none⟩,
   ⟨some 30, .mov (.t 6), some (29, false)⟩,
   ⟨some 31, .len (.t 30), some (29, false)⟩,
   ⟨some 32, .mov (.t 3), some (29, false)⟩,
   ⟨some 33, .len (.t 32), some (29, false)⟩,
   ⟨some 34, .bin .neq (.t 31) (.t 33), some (29, false)⟩,
   ⟨some 35, .pick (.t 29) (.k (.v (.one (.bool true)))) (.t 34), none⟩,
   ⟨some 36, .mov (.t 35), none⟩,
   ⟨some 37, .mov (.t 7), some (36, false)⟩,
   ⟨some 38, .len (.t 37), some (36, false)⟩,
   ⟨some 39, .mov (.t 4), some (36, false)⟩,
   ⟨some 40, .len (.t 39), some (36, false)⟩,
   ⟨some 41, .bin .neq (.t 38) (.t 40), some (36, false)⟩,
   ⟨some 42, .pick (.t 36) (.k (.v (.one (.bool true)))) (.t 41), none⟩] [0, 1, 2, 3, 4, 5, 6, 7, 8, 9, 10, 11, 12, 13, 14, 15] [])
 (.cond (.t 42)
  (.seq
  (.region [⟨some 2, .mov (.k (.v (.one (.bool false)))), none⟩] [0] [])
  .ret)
  .skip [2, 3, 4, 6, 7]))
 (.seq
 (.seq
 (.region [⟨some 43, .mov (.t 3), none⟩,
   ⟨some 44, .len (.t 43), none⟩,
   ⟨some 45, .mov (.k (.v (.one (.int .i64 0)))), none⟩] [0, 1, 2] [])
 (.block 0
  (.loop [3, 4, 6, 7, 44, 45]
   (.seq
   (.region [⟨some 46, .bin .lss (.t 45) (.t 44), none⟩] [0] [])
   (.seq
   (.cond (.t 46)
    .skip
    (.exit 0) [3, 4, 6, 7, 44, 45])
   (.seq
   (.block 1
    (.seq
    (.region [⟨some 47, .mov (.t 45), none⟩,
      ⟨some 9, .mov (.t 47), none⟩] [0, 1] [])
    (.seq
    (.region [⟨some 48, .mov (.t 3), none⟩,
      ⟨some 49, .mov (.t 9), none⟩,
      ⟨some 50, .iadr 2 (.t 48) (.t 49), none⟩,
      ⟨some 51, .fadr 1 (.t 50), none⟩,
      ⟨some 52, .load none (.t 51), none⟩,
      ⟨some 53, .mov (.t 52), none⟩,
      ⟨some 54, .mov (.t 6), some (53, true)⟩,
      ⟨some 55, .mov (.t 9), some (53, true)⟩,
      ⟨some 56, .iadr 1 (.t 54) (.t 55), some (53, true)⟩,
      ⟨some 57, .load none (.t 56), some (53, true)⟩,
      ⟨some 58, .mov (.t 3), some (53, true)⟩,
      ⟨some 59, .mov (.t 9), some (53, true)⟩,
      ⟨some 60, .iadr 2 (.t 58) (.t 59), some (53, true)⟩,
      ⟨some 61, .fadr 0 (.t 60), some (53, true)⟩,
      ⟨some 62, .load none (.t 61), some (53, true)⟩,
      ⟨some 63, .bin .lss (.t 57) (.t 62), some (53, true)⟩,
      ⟨some 64, .pick (.t 53) (.t 63) (.k (.v (.one (.bool false)))), none⟩] [0, 1, 2, 3, 4, 5, 6, 7, 8, 9, 10, 11, 12, 13, 14, 15, 16] [])
    (.cond (.t 64)
     (.seq
     (.region [⟨some 2, .mov (.k (.v (.one (.bool false)))), none⟩] [0] [])
     .ret)
     .skip [2, 3, 4, 6, 7, 44, 45]))))
   (.region [⟨some 65, .bin .add (.t 45) (.k (.v (.one (.int .i64 1)))), none⟩,
     ⟨some 45, .mov (.t 65), none⟩] [0, 1] [])))))))
 (.seq
 (.seq
 (.region [⟨some 66, .mov (.t 4), none⟩,
   ⟨some 67, .len (.t 66), none⟩,
   ⟨some 68, .mov (.k (.v (.one (.int .i64 0)))), none⟩] [0, 1, 2] [])
 (.block 2
  (.loop [3, 6, 7, 66, 67, 68]
   (.seq
   (.region [⟨some 69, .bin .lss (.t 68) (.t 67), none⟩] [0] [])
   (.seq
   (.cond (.t 69)
    .skip
    (.exit 2) [3, 6, 7, 66, 67, 68])
   (.seq
   (.block 3
    (.seq
    (.region [⟨some 70, .mov (.t 68), none⟩,
      ⟨some 71, .iadr 4 (.t 66) (.t 68), none⟩,
      ⟨some 72, .load (some 4) (.t 71), none⟩,
      ⟨some 11, .new 35 [(.int .i64 0), (.int .i64 0), (.int .i64 0), (.int .i64 0)], none⟩,
      ⟨some 10, .mov (.t 70), none⟩,
      ⟨none, .store 4 (.t 11) (.t 72), none⟩] [0, 1, 2, 3, 4, 5] [])
    (.seq
    (.region [⟨some 73, .mov (.t 6), none⟩,
      ⟨some 74, .fadr 0 (.t 11), none⟩,
      ⟨some 75, .load none (.t 74), none⟩,
      ⟨some 76, .iadr 1 (.t 73) (.t 75), none⟩,
      ⟨some 77, .load none (.t 76), none⟩,
      ⟨some 78, .fadr 2 (.t 11), none⟩,
      ⟨some 79, .load none (.t 78), none⟩,
      ⟨some 80, .bin .add (.t 77) (.t 79), none⟩,
      ⟨some 81, .mov (.t 3), none⟩,
      ⟨some 82, .fadr 1 (.t 11), none⟩,
      ⟨some 83, .load none (.t 82), none⟩,
      ⟨some 84, .iadr 2 (.t 81) (.t 83), none⟩,
      ⟨some 85, .fadr 0 (.t 84), none⟩,
      ⟨some 86, .load none (.t 85), none⟩,
      ⟨some 87, .bin .sub (.t 80) (.t 86), none⟩,
      ⟨some 12, .mov (.t 87), none⟩] [0, 1, 2, 3, 4, 5, 6, 7, 8, 9, 10, 11, 12, 13, 14, 15] [])
    (.seq
    (.region [⟨some 88, .mov (.t 7), none⟩,
      ⟨some 89, .mov (.t 10), none⟩,
      ⟨some 90, .iadr 1 (.t 88) (.t 89), none⟩,
      ⟨some 91, .load none (.t 90), none⟩,
      ⟨some 92, .mov (.t 91), none⟩,
      ⟨some 93, .mov (.t 6), some (92, true)⟩,
      ⟨some 94, .fadr 1 (.t 11), some (92, true)⟩,
      ⟨some 95, .load none (.t 94), some (92, true)⟩,
      ⟨some 96, .iadr 1 (.t 93) (.t 95), some (92, true)⟩,
      ⟨some 97, .load none (.t 96), some (92, true)⟩,
      ⟨some 98, .mov (.t 6), some (92, true)⟩,
      ⟨some 99, .fadr 0 (.t 11), some (92, true)⟩,
      ⟨some 100, .load none (.t 99), some (92, true)⟩,
      ⟨some 101, .iadr 1 (.t 98) (.t 100), some (92, true)⟩,
      ⟨some 102, .load none (.t 101), some (92, true)⟩,
      ⟨some 103, .fadr 2 (.t 11), some (92, true)⟩,
      ⟨some 104, .load none (.t 103), some (92, true)⟩,
      ⟨some 105, .bin .add (.t 102) (.t 104), some (92, true)⟩,
      ⟨some 106, .bin .lss (.t 97) (.t 105), some (92, true)⟩,
      ⟨some 107, .pick (.t 92) (.t 106) (.k (.v (.one (.bool false)))), none⟩,
      ⟨some 108, .mov (.t 107), none⟩,
      ⟨some 109, .mov (.t 7), some (108, false)⟩,
      ⟨some 110, .mov (.t 10), some (108, false)⟩,
      ⟨some 111, .iadr 1 (.t 109) (.t 110), some (108, false)⟩,
      ⟨some 112, .load none (.t 111), some (108, false)⟩,
      ⟨some 113, .fadr 3 (.t 11), some (108, false)⟩,
      ⟨some 114, .load none (.t 113), some (108, false)⟩,
      ⟨some 115, .bin .eql (.t 114) (.k (.v (.one (.int .i64 (-1))))), some (108, false)⟩,
      ⟨some 116, .mov (.t 115), some (108, false)⟩,
      ⟨some 117, .mov (.t 12), some (116, false)⟩,
      ⟨some 118, .fadr 3 (.t 11), some (116, false)⟩,
      ⟨some 119, .load none (.t 118), some (116, false)⟩,
      ⟨some 120, .bin .leq (.t 117) (.t 119), some (116, false)⟩,
      ⟨some 121, .pick (.t 116) (.k (.v (.one (.bool true)))) (.t 120), some (108, false)⟩,
      ⟨some 122, .eqb true (.t 112) (.t 121), some (108, false)⟩,
      ⟨some 123, .pick (.t 108) (.k (.v (.one (.bool true)))) (.t 122), none⟩] [0, 1, 2, 3, 4, 5, 6, 7, 8, 9, 10, 11, 12, 13, 14, 15, 16, 17, 18, 19, 20, 21, 22, 23, 24, 25, 26, 27, 28, 29, 30, 31, 32, 33, 34, 35] [])
    (.cond (.t 123)
     (.seq
     (.region [⟨some 2, .mov (.k (.v (.one (.bool false)))), none⟩] [0] [])
     .ret)
     .skip [2, 3, 6, 7, 66, 67, 68])))))
   (.region [⟨some 124, .bin .add (.t 68) (.k (.v (.one (.int .i64 1)))), none⟩,
     ⟨some 68, .mov (.t 124), none⟩] [0, 1] [])))))))
 (.seq
 (.region [⟨some 125, .call 14 [], none⟩,
   ⟨some 2, .mov (.t 125), none⟩] [0, 1] [])
 .ret)))))))⟩
theorem t3 : tell Try.prog Try.f3 [([2, 3, 4, 6, 7], [], []), ([3, 4, 6, 7, 44, 45], [], []), ([3, 4, 6, 7, 44, 45], [], []), ([0, 1, 2, 3, 4, 5, 6, 7, 8, 9, 10, 11, 12, 13, 14, 15, 16], [], [0, 0, 3, 7, 15, 31, 63, 63, 255, 511, 63, 63, 3135, 7231, 15423, 32767, 65535]), ([2, 3, 4, 6, 7, 44, 45], [], []), ([3, 6, 7, 66, 67, 68], [], []), ([3, 6, 7, 66, 67, 68], [], []), ([0, 1, 2, 3, 4, 5, 6, 7, 8, 9, 10, 11, 12, 13, 14, 15], [], [0, 0, 2, 7, 15, 0, 32, 127, 0, 0, 512, 1792, 3840, 7936, 16383, 32767]), ([0, 1, 2, 3, 4, 5, 6, 7, 8, 9, 10, 11, 12, 13, 14, 15, 16, 17, 18, 19, 20, 21, 22, 23, 24, 25, 26, 27, 28, 29, 30, 31, 32, 33, 34, 35], [], [0, 0, 3, 7, 15, 31, 31, 95, 255, 511, 31, 31, 2079, 7199, 15391, 31, 32799, 130079, 262143, 524287, 1048575, 2097151, 2097151, 8388607, 16777215, 2097151, 35651583, 102760447, 236978175, 505413631, 505413631, 1579155455, 4263510015, 8558477311, 17179869183, 34359738367]), ([2, 3, 6, 7, 66, 67, 68], [], [])] = some a3 := by kernel_rfl
theorem ok3 : FuncOk Try.prog 3 a3 := tell_ok Try.func3 t3

/-- railplan/railplanlaw34.DelayLeast -/
def a4 : AFunc := ⟨1, [2], none,
 (.seq
 (.region [⟨some 2, .mov (.k (.v (.one (.bool false)))), none⟩] [0] [])
 (.seq
 (.region [⟨some 19, .mov (.t 0), none⟩,
   ⟨some 20, .call 12 [(.t 19)], none⟩,
   ⟨some 18, .mov (.t 20), none⟩,
   ⟨some 21, .ext 0 (.t 18), none⟩,
   ⟨some 22, .ext 1 (.t 18), none⟩,
   ⟨some 23, .ext 2 (.t 18), none⟩,
   ⟨some 3, .mov (.t 21), none⟩,
   ⟨some 4, .mov (.t 22), none⟩,
   ⟨some 5, .mov (.t 23), none⟩] [0, 1, 2, 3, 4, 5, 6, 7, 8] [])
 (.seq
 (.seq
 (.region [⟨some 24, .mov (.t 4), none⟩,
   ⟨some 25, .len (.t 24), none⟩,
   ⟨some 26, .mov (.k (.v (.one (.int .i64 0)))), none⟩] [0, 1, 2] [])
 (.block 0
  (.loop [3, 4, 5, 25, 26]
   (.seq
   (.region [⟨some 27, .bin .lss (.t 26) (.t 25), none⟩] [0] [])
   (.seq
   (.cond (.t 27)
    .skip
    (.exit 0) [3, 4, 5, 25, 26])
   (.seq
   (.block 1
    (.seq
    (.region [⟨some 28, .mov (.t 26), none⟩,
      ⟨some 6, .mov (.t 28), none⟩] [0, 1] [])
    (.region [⟨some 29, .mov (.t 4), none⟩,
      ⟨some 30, .mov (.t 6), none⟩,
      ⟨some 31, .iadr 4 (.t 29) (.t 30), none⟩,
      ⟨some 32, .fadr 3 (.t 31), none⟩,
      ⟨none, .store 1 (.t 32) (.k (.v (.one (.int .i64 (-1))))), none⟩] [0, 1, 2, 3, 4] [])))
   (.region [⟨some 33, .bin .add (.t 26) (.k (.v (.one (.int .i64 1)))), none⟩,
     ⟨some 26, .mov (.t 33), none⟩] [0, 1] [])))))))
 (.seq
 (.region [⟨some 35, .mov (.t 3), none⟩,
   ⟨some 36, .mov (.t 4), none⟩,
   ⟨some 37, .mov (.t 5), none⟩,
   ⟨some 38, .call 13 [(.t 35), (.t 36), (.t 37)], none⟩,
   ⟨some 34, .mov (.t 38), none⟩,
   ⟨some 39, .ext 0 (.t 34), none⟩,
   ⟨some 40, .ext 1 (.t 34), none⟩,
   ⟨some 41, .ext 2 (.t 34), none⟩,
   ⟨some 7, .mov (.t 39), none⟩,
   ⟨some 8, .mov (.t 40), none⟩,
   ⟨some 9, .mov (.t 41), none⟩] [0, 1, 2, 3, 4, 5, 6, 7, 8, 9, 10] [])
 (.seq
 (.seq
 (.region [⟨some 42, .mov (.t 9), none⟩,
   ⟨some 43, .bin .neq (.t 42) (.k (.v (.one (.int .i64 0)))), none⟩,
   ⟨some 44, .mov (.t 43), none⟩,
   ⟨some 45, .mov (.t 7), some (44, false)⟩,
   ⟨some 46, .len (.t 45), some (44, false)⟩,
   ⟨some 47, .mov (.t 3), some (44, false)⟩,
   ⟨some 48, .len (.t 47), some (44, false)⟩,
   ⟨some 49, .bin .neq (.t 46) (.t 48), some (44, false)⟩,
   ⟨some 50, .pick (.t 44) (.k (.v (.one (.bool true)))) (.t 49), none⟩] [0, 1, 2, 3, 4, 5, 6, 7, 8] [])
 (.cond (.t 50)
  (.seq
  (.region [⟨some 2, .mov (.k (.v (.one (.bool false)))), none⟩] [0] [])
  .ret)
  .skip [2, 3, 4, 5, 7]))
 (.seq
 (.seq
 (.region [⟨some 51, .mov (.t 3), none⟩,
   ⟨some 52, .len (.t 51), none⟩,
   ⟨some 53, .mov (.k (.v (.one (.int .i64 0)))), none⟩] [0, 1, 2] [])
 (.block 2
  (.loop [3, 4, 5, 7, 52, 53]
   (.seq
   (.region [⟨some 54, .bin .lss (.t 53) (.t 52), none⟩] [0] [])
   (.seq
   (.cond (.t 54)
    .skip
    (.exit 2) [3, 4, 5, 7, 52, 53])
   (.seq
   (.block 3
    (.seq
    (.region [⟨some 55, .mov (.t 53), none⟩,
      ⟨some 10, .mov (.t 55), none⟩] [0, 1] [])
    (.seq
    (.region [⟨some 56, .mov (.t 7), none⟩,
      ⟨some 57, .mov (.t 10), none⟩,
      ⟨some 58, .iadr 1 (.t 56) (.t 57), none⟩,
      ⟨some 59, .load none (.t 58), none⟩,
      ⟨some 11, .mov (.t 59), none⟩] [0, 1, 2, 3, 4] [])
    (.seq
    (.seq
    (.region [⟨some 60, .mov (.t 5), none⟩,
      ⟨some 61, .len (.t 60), none⟩,
      ⟨some 62, .mov (.k (.v (.one (.int .i64 0)))), none⟩] [0, 1, 2] [])
    (.block 4
     (.loop [3, 4, 5, 7, 10, 11, 52, 53, 60, 61, 62]
      (.seq
      (.region [⟨some 63, .bin .lss (.t 62) (.t 61), none⟩] [0] [])
      (.seq
      (.cond (.t 63)
       .skip
       (.exit 4) [3, 4, 5, 7, 10, 11, 52, 53, 60, 61, 62])
      (.seq
      (.block 5
       (.seq
       (.region [⟨some 64, .iadr 2 (.t 60) (.t 62), none⟩,
         ⟨some 65, .load (some 2) (.t 64), none⟩,
         ⟨some 13, .new 39 [(.int .i64 0), (.int .i64 0)], none⟩,
         ⟨none, .store 2 (.t 13) (.t 65), none⟩] [0, 1, 2, 3] [])
       (.seq
       (.region [⟨some 66, .fadr 0 (.t 13), none⟩,
         ⟨some 67, .load none (.t 66), none⟩,
         ⟨some 68, .mov (.t 10), none⟩,
         ⟨some 69, .bin .eql (.t 67) (.t 68), none⟩] [0, 1, 2, 3] [])
       (.cond (.t 69)
        (.region [⟨some 70, .mov (.t 11), none⟩,
          ⟨some 71, .fadr 1 (.t 13), none⟩,
          ⟨some 72, .load none (.t 71), none⟩,
          ⟨some 73, .bin .sub (.t 70) (.t 72), none⟩,
          ⟨some 11, .mov (.t 73), none⟩] [0, 1, 2, 3, 4] [])
        .skip [3, 4, 5, 7, 10, 11, 52, 53, 60, 61, 62]))))
      (.region [⟨some 74, .bin .add (.t 62) (.k (.v (.one (.int .i64 1)))), none⟩,
        ⟨some 62, .mov (.t 74), none⟩] [0, 1] [])))))))
    (.seq
    (.region [⟨some 14, .mov (.k (.v (.one (.bool false)))), none⟩,
      ⟨some 15, .mov (.k (.v (.one (.bool false)))), none⟩] [0, 1] [])
    (.seq
    (.seq
    (.region [⟨some 75, .mov (.t 4), none⟩,
      ⟨some 76, .len (.t 75), none⟩,
      ⟨some 77, .mov (.k (.v (.one (.int .i64 0)))), none⟩] [0, 1, 2] [])
    (.block 6
     (.loop [3, 4, 5, 7, 10, 11, 14, 15, 52, 53, 75, 76, 77]
      (.seq
      (.region [⟨some 78, .bin .lss (.t 77) (.t 76), none⟩] [0] [])
      (.seq
      (.cond (.t 78)
       .skip
       (.exit 6) [3, 4, 5, 7, 10, 11, 14, 15, 52, 53, 75, 76, 77])
      (.seq
      (.block 7
       (.seq
       (.region [⟨some 79, .iadr 4 (.t 75) (.t 77), none⟩,
         ⟨some 80, .load (some 4) (.t 79), none⟩,
         ⟨some 17, .new 35 [(.int .i64 0), (.int .i64 0), (.int .i64 0), (.int .i64 0)], none⟩,
         ⟨none, .store 4 (.t 17) (.t 80), none⟩] [0, 1, 2, 3] [])
       (.seq
       (.region [⟨some 81, .fadr 1 (.t 17), none⟩,
         ⟨some 82, .load none (.t 81), none⟩,
         ⟨some 83, .mov (.t 10), none⟩,
         ⟨some 84, .bin .eql (.t 82) (.t 83), none⟩] [0, 1, 2, 3] [])
       (.cond (.t 84)
        (.seq
        (.region [⟨some 14, .mov (.k (.v (.one (.bool true)))), none⟩] [0] [])
        (.region [⟨some 85, .mov (.t 15), none⟩,
          ⟨some 86, .mov (.t 85), none⟩,
          ⟨some 87, .mov (.t 11), some (86, false)⟩,
          ⟨some 88, .mov (.t 7), some (86, false)⟩,
          ⟨some 89, .fadr 0 (.t 17), some (86, false)⟩,
          ⟨some 90, .load none (.t 89), some (86, false)⟩,
          ⟨some 91, .iadr 1 (.t 88) (.t 90), some (86, false)⟩,
          ⟨some 92, .load none (.t 91), some (86, false)⟩,
          ⟨some 93, .fadr 2 (.t 17), some (86, false)⟩,
          ⟨some 94, .load none (.t 93), some (86, false)⟩,
          ⟨some 95, .bin .add (.t 92) (.t 94), some (86, false)⟩,
          ⟨some 96, .bin .eql (.t 87) (.t 95), some (86, false)⟩,
          ⟨some 97, .pick (.t 86) (.k (.v (.one (.bool true)))) (.t 96), none⟩,
          ⟨some 15, .mov (.t 97), none⟩] [0, 1, 2, 3, 4, 5, 6, 7, 8, 9, 10, 11, 12, 13] []))
        .skip [3, 4, 5, 7, 10, 11, 14, 15, 52, 53, 75, 76, 77]))))
      (.region [⟨some 98, .bin .add (.t 77) (.k (.v (.one (.int .i64 1)))), none⟩,
        ⟨some 77, .mov (.t 98), none⟩] [0, 1] [])))))))
    (.seq
    (.region [⟨some 99, .mov (.t 15), none⟩,
      ⟨some 100, .not (.t 99), none⟩,
      ⟨some 101, .mov (.t 100), none⟩,
      ⟨some 102, .mov (.t 11), some (101, true)⟩,
      ⟨some 103, .mov (.t 3), some (101, true)⟩,
      ⟨some 104, .mov (.t 10), some (101, true)⟩,
      ⟨some 105, .iadr 2 (.t 103) (.t 104), some (101, true)⟩,
      ⟨some 106, .fadr 0 (.t 105), some (101, true)⟩,
      ⟨some 107, .load none (.t 106), some (101, true)⟩,
      ⟨some 108, .bin .neq (.t 102) (.t 107), some (101, true)⟩,
      ⟨some 109, .mov (.t 108), some (101, true)⟩,
      ⟨some 110, .mov (.t 14), some (109, false)⟩,
      ⟨some 111, .mov (.t 110), some (109, false)⟩,
      ⟨some 112, .mov (.t 3), some (111, true)⟩,
      ⟨some 113, .mov (.t 10), some (111, true)⟩,
      ⟨some 114, .iadr 2 (.t 112) (.t 113), some (111, true)⟩,
      ⟨some 115, .fadr 1 (.t 114), some (111, true)⟩,
      ⟨some 116, .load none (.t 115), some (111, true)⟩,
      ⟨some 117, .not (.t 116), some (111, true)⟩,
      ⟨some 118, .pick (.t 111) (.t 117) (.k (.v (.one (.bool false)))), some (109, false)⟩,
      ⟨some 119, .pick (.t 109) (.k (.v (.one (.bool true)))) (.t 118), some (101, true)⟩,
      ⟨some 120, .pick (.t 101) (.t 119) (.k (.v (.one (.bool false)))), none⟩] [0, 1, 2, 3, 4, 5, 6, 7, 8, 9, 10, 11, 12, 13, 14, 15, 16, 17, 18, 19, 20, 21] [])
    (.cond (.t 120)
     (.seq
     (.region [⟨some 2, .mov (.k (.v (.one (.bool false)))), none⟩] [0] [])
     .ret)
     .skip [2, 3, 4, 5, 7, 52, 53]))))))))
   (.region [⟨some 121, .bin .add (.t 53) (.k (.v (.one (.int .i64 1)))), none⟩,
     ⟨some 53, .mov (.t 121), none⟩] [0, 1] [])))))))
 (.seq
 (.region [⟨some 122, .call 14 [], none⟩,
   ⟨some 2, .mov (.t 122), none⟩] [0, 1] [])
 .ret)))))))⟩
theorem t4 : tell Try.prog Try.f4 [([3, 4, 5, 25, 26], [], []), ([3, 4, 5, 25, 26], [], []), ([2, 3, 4, 5, 7], [], []), ([3, 4, 5, 7, 52, 53], [], []), ([3, 4, 5, 7, 52, 53], [], []), ([3, 4, 5, 7, 10, 11, 52, 53, 60, 61, 62], [], []), ([3, 4, 5, 7, 10, 11, 52, 53, 60, 61, 62], [], []), ([3, 4, 5, 7, 10, 11, 52, 53, 60, 61, 62], [], []), ([3, 4, 5, 7, 10, 11, 14, 15, 52, 53, 75, 76, 77], [], []), ([3, 4, 5, 7, 10, 11, 14, 15, 52, 53, 75, 76, 77], [], []), ([3, 4, 5, 7, 10, 11, 14, 15, 52, 53, 75, 76, 77], [], []), ([0, 1, 2, 3, 4, 5, 6, 7, 8, 9, 10, 11, 12, 13], [], [0, 1, 3, 3, 3, 19, 59, 123, 3, 259, 1019, 2047, 4095, 8191]), ([2, 3, 4, 5, 7, 52, 53], [], [])] = some a4 := by kernel_rfl
theorem ok4 : FuncOk Try.prog 4 a4 := tell_ok Try.func4 t4

/-- railplan/railplanlaw34.DelayMonotone -/
def a5 : AFunc := ⟨3, [6], none,
 (.seq
 (.region [⟨some 6, .mov (.k (.v (.one (.bool false)))), none⟩] [0] [])
 (.seq
 (.region [⟨some 24, .mov (.t 0), none⟩,
   ⟨some 25, .call 12 [(.t 24)], none⟩,
   ⟨some 23, .mov (.t 25), none⟩,
   ⟨some 26, .ext 0 (.t 23), none⟩,
   ⟨some 27, .ext 1 (.t 23), none⟩,
   ⟨some 28, .ext 2 (.t 23), none⟩,
   ⟨some 7, .mov (.t 26), none⟩,
   ⟨some 8, .mov (.t 27), none⟩,
   ⟨some 9, .mov (.t 28), none⟩] [0, 1, 2, 3, 4, 5, 6, 7, 8] [])
 (.seq
 (.seq
 (.region [⟨some 29, .mov (.t 8), none⟩,
   ⟨some 30, .len (.t 29), none⟩,
   ⟨some 31, .mov (.k (.v (.one (.int .i64 0)))), none⟩] [0, 1, 2] [])
 (.block 0
  (.loop [1, 2, 7, 8, 9, 30, 31]
   (.seq
   (.region [⟨some 32, .bin .lss (.t 31) (.t 30), none⟩] [0] [])
   (.seq
   (.cond (.t 32)
    .skip
    (.exit 0) [1, 2, 7, 8, 9, 30, 31])
   (.seq
   (.block 1
    (.seq
    (.region [⟨some 33, .mov (.t 31), none⟩,
      ⟨some 10, .mov (.t 33), none⟩] [0, 1] [])
    (.region [⟨some 34, .mov (.t 8), none⟩,
      ⟨some 35, .mov (.t 10), none⟩,
      ⟨some 36, .iadr 4 (.t 34) (.t 35), none⟩,
      ⟨some 37, .fadr 3 (.t 36), none⟩,
      ⟨none, .store 1 (.t 37) (.k (.v (.one (.int .i64 (-1))))), none⟩] [0, 1, 2, 3, 4] [])))
   (.region [⟨some 38, .bin .add (.t 31) (.k (.v (.one (.int .i64 1)))), none⟩,
     ⟨some 31, .mov (.t 38), none⟩] [0, 1] [])))))))
 (.seq
 (.region [⟨some 40, .mov (.t 7), none⟩,
   ⟨some 41, .mov (.t 8), none⟩,
   ⟨some 42, .mov (.t 9), none⟩,
   ⟨some 43, .call 13 [(.t 40), (.t 41), (.t 42)], none⟩,
   ⟨some 39, .mov (.t 43), none⟩,
   ⟨some 44, .ext 0 (.t 39), none⟩,
   ⟨some 45, .ext 1 (.t 39), none⟩,
   ⟨some 46, .ext 2 (.t 39), none⟩,
   ⟨some 11, .mov (.t 44), none⟩,
   ⟨some 12, .mov (.t 45), none⟩,
   ⟨some 13, .mov (.t 46), none⟩] [0, 1, 2, 3, 4, 5, 6, 7, 8, 9, 10] [])
 (.seq
 (.region [⟨some 47, .mov (.t 2), none⟩,
   ⟨some 48, .call 15 [(.t 47), (.k (.v (.one (.int .i64 500))))], none⟩,
   ⟨some 14, .mov (.t 48), none⟩] [0, 1, 2] [])
 (.seq
 (.region [⟨some 49, .mov (.t 1), none⟩,
   ⟨some 50, .mov (.t 7), none⟩,
   ⟨some 51, .len (.t 50), none⟩,
   ⟨some 52, .call 15 [(.t 49), (.t 51)], none⟩,
   ⟨some 15, .mov (.t 52), none⟩] [0, 1, 2, 3, 4] [])
 (.seq
 (.region [⟨some 53, .mov (.t 9), none⟩,
   ⟨some 54, .app 39 2 16 (.k (.v (.one .nils))) (.t 53), none⟩,
   ⟨some 16, .mov (.t 54), none⟩] [0, 1, 2] [])
 (.seq
 (.region [⟨some 17, .mov (.k (.v (.one (.bool false)))), none⟩] [0] [])
 (.seq
 (.seq
 (.region [⟨some 55, .mov (.t 16), none⟩,
   ⟨some 56, .len (.t 55), none⟩,
   ⟨some 57, .mov (.k (.v (.one (.int .i64 0)))), none⟩] [0, 1, 2] [])
 (.block 2
  (.loop [7, 8, 11, 13, 14, 15, 16, 17, 56, 57]
   (.seq
   (.region [⟨some 58, .bin .lss (.t 57) (.t 56), none⟩] [0] [])
   (.seq
   (.cond (.t 58)
    .skip
    (.exit 2) [7, 8, 11, 13, 14, 15, 16, 17, 56, 57])
   (.seq
   (.block 3
    (.seq
    (.region [⟨some 59, .mov (.t 57), none⟩,
      ⟨some 18, .mov (.t 59), none⟩] [0, 1] [])
    (.seq
    (.region [⟨some 60, .mov (.t 16), none⟩,
      ⟨some 61, .mov (.t 18), none⟩,
      ⟨some 62, .iadr 2 (.t 60) (.t 61), none⟩,
      ⟨some 63, .fadr 0 (.t 62), none⟩,
      ⟨some 64, .load none (.t 63), none⟩,
      ⟨some 65, .mov (.t 15), none⟩,
      ⟨some 66, .bin .eql (.t 64) (.t 65), none⟩] [0, 1, 2, 3, 4, 5, 6] [])
    (.cond (.t 66)
     (.seq
     (.region [⟨some 67, .mov (.t 16), none⟩,
       ⟨some 68, .mov (.t 18), none⟩,
       ⟨some 69, .iadr 2 (.t 67) (.t 68), none⟩,
       ⟨some 70, .fadr 1 (.t 69), none⟩,
       ⟨some 71, .load none (.t 70), none⟩,
       ⟨some 72, .mov (.t 14), none⟩,
       ⟨some 73, .bin .add (.t 71) (.t 72), none⟩,
       ⟨some 74, .iadr 2 (.t 67) (.t 68), none⟩,
       ⟨some 75, .fadr 1 (.t 74), none⟩,
       ⟨none, .store 1 (.t 75) (.t 73), none⟩] [0, 1, 2, 3, 4, 5, 6, 7, 8, 9] [])
     (.region [⟨some 17, .mov (.k (.v (.one (.bool true)))), none⟩] [0] []))
     .skip [7, 8, 11, 13, 14, 15, 16, 17, 56, 57]))))
   (.region [⟨some 76, .bin .add (.t 57) (.k (.v (.one (.int .i64 1)))), none⟩,
     ⟨some 57, .mov (.t 76), none⟩] [0, 1] [])))))))
 (.seq
 (.seq
 (.region [⟨some 77, .mov (.t 17), none⟩,
   ⟨some 78, .not (.t 77), none⟩] [0, 1] [])
 (.cond (.t 78)
  (.region [⟨some 79, .mov (.t 16), none⟩,
    ⟨some 80, .mov (.t 15), none⟩,
    ⟨some 81, .mov (.t 14), none⟩,
    ⟨some 82, .build [(.int .i64 0), (.int .i64 0)] [(0, 1, (.t 80)), (1, 1, (.t 81))], none⟩,
    ⟨some 83, .bsl 39 2 1 [(.int .i64 0), (.int .i64 0)] [(0, 2, (.t 82))], none⟩,
    ⟨some 84, .app 39 2 16 (.t 79) (.t 83), none⟩,
    ⟨some 16, .mov (.t 84), none⟩] [0, 1, 2, 3, 4, 5, 6] [])
  .skip [7, 8, 11, 13, 14, 15, 16]))
 (.seq
 (.region [⟨some 86, .mov (.t 7), none⟩,
   ⟨some 87, .mov (.t 8), none⟩,
   ⟨some 88, .mov (.t 16), none⟩,
   ⟨some 89, .call 13 [(.t 86), (.t 87), (.t 88)], none⟩,
   ⟨some 85, .mov (.t 89), none⟩,
   ⟨some 90, .ext 0 (.t 85), none⟩,
   ⟨some 91, .ext 1 (.t 85), none⟩,
   ⟨some 92, .ext 2 (.t 85), none⟩,
   ⟨some 19, .mov (.t 90), none⟩,
   ⟨some 20, .mov (.t 91), none⟩,
   ⟨some 21, .mov (.t 92), none⟩] [0, 1, 2, 3, 4, 5, 6, 7, 8, 9, 10] [])
 (.seq
 (.seq
 (.region [⟨some 93, .mov (.t 13), none⟩,
   ⟨some 94, .bin .neq (.t 93) (.k (.v (.one (.int .i64 0)))), none⟩,
   ⟨some 95, .mov (.t 94), none⟩,
   ⟨some 96, .mov (.t 21), some (95, false)⟩,
   ⟨some 97, .bin .neq (.t 96) (.k (.v (.one (.int .i64 0)))), some (95, false)⟩,
   ⟨some 98, .pick (.t 95) (.k (.v (.one (.bool true)))) (.t 97), none⟩,
   ⟨some 99, .mov (.t 98), none⟩,
   ⟨some 100, .mov (.t 11), some (99, false)⟩,
   ⟨some 101, .len (.t 100), some (99, false)⟩,
   ⟨some 102, .mov (.t 7), some (99, false)⟩,
   ⟨some 103, .len (.t 102), some (99, false)⟩,
   ⟨some 104, .bin .neq (.t 101) (.t 103), some (99, false)⟩,
   ⟨some 105, .pick (.t 99) (.k (.v (.one (.bool true)))) (.t 104), none⟩,
   ⟨some 106, .mov (.t 105), none⟩,
   ⟨some 107, .mov (.t 19), some (106, false)⟩,
   ⟨some 108, .len (.t 107), some (106, false)⟩,
   ⟨some 109, .mov (.t 7), some (106, false)⟩,
   ⟨some 110, .len (.t 109), some (106, false)⟩,
   ⟨some 111, .bin .neq (.t 108) (.t 110), some (106, false)⟩,
   ⟨some 112, .pick (.t 106) (.k (.v (.one (.bool true)))) (.t 111), none⟩] [0, 1, 2, 3, 4, 5, 6, 7, 8, 9, 10, 11, 12, 13, 14, 15, 16, 17, 18, 19] [])
 (.cond (.t 112)
  (.seq
  (.region [⟨some 6, .mov (.k (.v (.one (.bool false)))), none⟩] [0] [])
  .ret)
  .skip [6, 7, 11, 14, 15, 19]))
 (.seq
 (.seq
 (.region [⟨some 113, .mov (.t 7), none⟩,
   ⟨some 114, .len (.t 113), none⟩,
   ⟨some 115, .mov (.k (.v (.one (.int .i64 0)))), none⟩] [0, 1, 2] [])
 (.block 4
  (.loop [11, 14, 15, 19, 114, 115]
   (.seq
   (.region [⟨some 116, .bin .lss (.t 115) (.t 114), none⟩] [0] [])
   (.seq
   (.cond (.t 116)
    .skip
    (.exit 4) [11, 14, 15, 19, 114, 115])
   (.seq
   (.block 5
    (.seq
    (.region [⟨some 117, .mov (.t 115), none⟩,
      ⟨some 22, .mov (.t 117), none⟩] [0, 1] [])
    (.seq
    (.region [⟨some 118, .mov (.t 19), none⟩,
      ⟨some 119, .mov (.t 22), none⟩,
      ⟨some 120, .iadr 1 (.t 118) (.t 119), none⟩,
      ⟨some 121, .load none (.t 120), none⟩,
      ⟨some 122, .mov (.t 11), none⟩,
      ⟨some 123, .mov (.t 22), none⟩,
      ⟨some 124, .iadr 1 (.t 122) (.t 123), none⟩,
      ⟨some 125, .load none (.t 124), none⟩,
      ⟨some 126, .bin .lss (.t 121) (.t 125), none⟩,
      ⟨some 127, .mov (.t 126), none⟩,
      ⟨some 128, .mov (.t 19), some (127, false)⟩,
      ⟨some 129, .mov (.t 22), some (127, false)⟩,
      ⟨some 130, .iadr 1 (.t 128) (.t 129), some (127, false)⟩,
      ⟨some 131, .load none (.t 130), some (127, false)⟩,
      ⟨some 132, .mov (.t 11), some (127, false)⟩,
      ⟨some 133, .mov (.t 22), some (127, false)⟩,
      ⟨some 134, .iadr 1 (.t 132) (.t 133), some (127, false)⟩,
      ⟨some 135, .load none (.t 134), some (127, false)⟩,
      ⟨some 136, .mov (.t 14), some (127, false)⟩,
      ⟨some 137, .bin .add (.t 135) (.t 136), some (127, false)⟩,
      ⟨some 138, .bin .gtr (.t 131) (.t 137), some (127, false)⟩,
      ⟨some 139, .pick (.t 127) (.k (.v (.one (.bool true)))) (.t 138), none⟩] [0, 1, 2, 3, 4, 5, 6, 7, 8, 9, 10, 11, 12, 13, 14, 15, 16, 17, 18, 19, 20, 21] [])
    (.cond (.t 139)
     (.seq
     (.region [⟨some 6, .mov (.k (.v (.one (.bool false)))), none⟩] [0] [])
     .ret)
     .skip [6, 11, 14, 15, 19, 114, 115]))))
   (.region [⟨some 140, .bin .add (.t 115) (.k (.v (.one (.int .i64 1)))), none⟩,
     ⟨some 115, .mov (.t 140), none⟩] [0, 1] [])))))))
 (.seq
 (.region [⟨some 141, .call 14 [], none⟩,
   ⟨some 142, .mov (.t 141), none⟩,
   ⟨some 143, .mov (.t 19), some (142, true)⟩,
   ⟨some 144, .mov (.t 15), some (142, true)⟩,
   ⟨some 145, .iadr 1 (.t 143) (.t 144), some (142, true)⟩,
   ⟨some 146, .load none (.t 145), some (142, true)⟩,
   ⟨some 147, .mov (.t 11), some (142, true)⟩,
   ⟨some 148, .mov (.t 15), some (142, true)⟩,
   ⟨some 149, .iadr 1 (.t 147) (.t 148), some (142, true)⟩,
   ⟨some 150, .load none (.t 149), some (142, true)⟩,
   ⟨some 151, .mov (.t 14), some (142, true)⟩,
   ⟨some 152, .bin .add (.t 150) (.t 151), some (142, true)⟩,
   ⟨some 153, .bin .eql (.t 146) (.t 152), some (142, true)⟩,
   ⟨some 154, .pick (.t 142) (.t 153) (.k (.v (.one (.bool false)))), none⟩,
   ⟨some 6, .mov (.t 154), none⟩] [0, 1, 2, 3, 4, 5, 6, 7, 8, 9, 10, 11, 12, 13, 14] [])
 .ret))))))))))))))⟩
theorem t5 : tell Try.prog Try.f5 [([1, 2, 7, 8, 9, 30, 31], [], []), ([1, 2, 7, 8, 9, 30, 31], [], []), ([7, 8, 11, 13, 14, 15, 16, 17, 56, 57], [], []), ([7, 8, 11, 13, 14, 15, 16, 17, 56, 57], [], []), ([7, 8, 11, 13, 14, 15, 16, 17, 56, 57], [], []), ([7, 8, 11, 13, 14, 15, 16], [], []), ([6, 7, 11, 14, 15, 19], [], []), ([11, 14, 15, 19, 114, 115], [], []), ([11, 14, 15, 19, 114, 115], [], []), ([0, 1, 2, 3, 4, 5, 6, 7, 8, 9, 10, 11, 12, 13, 14, 15, 16, 17, 18, 19, 20, 21], [], [0, 0, 3, 7, 0, 0, 48, 112, 255, 511, 1023, 1023, 4095, 8191, 1023, 1023, 50175, 115711, 1023, 508927, 1048575, 2097151]), ([6, 11, 14, 15, 19, 114, 115], [], []), ([0, 1, 2, 3, 4, 5, 6, 7, 8, 9, 10, 11, 12, 13, 14], [], [0, 1, 3, 3, 15, 31, 3, 3, 195, 451, 3, 1987, 4095, 8191, 16383])] = some a5 := by kernel_rfl
theorem ok5 : FuncOk Try.prog 5 a5 := tell_ok Try.func5 t5

end Go.Proofs.Ythoicdnlcnppgaa.Fn
