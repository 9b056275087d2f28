/- Functions of the program, as the abstract machine's, and that they are. Conditions: none. -/
import Derived.Test.YthoicdnlcnppgaaAmCo
import Derived.Test.YthoicdnlcnppgaaProg
set_option linter.unusedVariables false
namespace Go.Proofs.Ythoicdnlcnppgaa.Fn
open Go Go.Am
set_option maxRecDepth 100000
/-- railplan/railplanlaw34.DelayCause -/
def a10 : AFunc := ⟨2, [4], none,
 (.seq
 (.region [⟨some 4, .mov (.k (.v (.one (.bool false)))), none⟩] [0] [])
 (.seq
 (.region [⟨some 21, .mov (.t 0), none⟩,
   ⟨some 22, .call 12 [(.t 21)], none⟩,
   ⟨some 20, .mov (.t 22), none⟩,
   ⟨some 23, .ext 0 (.t 20), none⟩,
   ⟨some 24, .ext 1 (.t 20), none⟩,
   ⟨some 25, .ext 2 (.t 20), none⟩,
   ⟨some 5, .mov (.t 23), none⟩,
   ⟨some 6, .mov (.t 24), none⟩,
   ⟨some 7, .mov (.t 25), none⟩] [0, 1, 2, 3, 4, 5, 6, 7, 8] [])
 (.seq
 (.region [⟨some 26, .mov (.t 1), none⟩,
   ⟨some 27, .mov (.t 5), none⟩,
   ⟨some 28, .len (.t 27), none⟩,
   ⟨some 29, .call 15 [(.t 26), (.t 28)], none⟩,
   ⟨some 8, .mov (.t 29), none⟩] [0, 1, 2, 3, 4] [])
 (.seq
 (.region [⟨some 31, .mov (.t 5), none⟩,
   ⟨some 32, .mov (.t 6), none⟩,
   ⟨some 33, .mov (.t 7), none⟩,
   ⟨some 34, .call 16 [(.t 31), (.t 32), (.t 33)], none⟩,
   ⟨some 30, .mov (.t 34), none⟩,
   ⟨some 35, .ext 0 (.t 30), none⟩,
   ⟨some 36, .ext 1 (.t 30), none⟩,
   ⟨some 37, .ext 2 (.t 30), none⟩,
   ⟨some 9, .mov (.t 35), none⟩,
   ⟨some 10, .mov (.t 36), none⟩,
   ⟨some 11, .mov (.t 37), none⟩] [0, 1, 2, 3, 4, 5, 6, 7, 8, 9, 10] [])
 (.seq
 (.region [⟨some 39, .mov (.t 5), none⟩,
   ⟨some 40, .mov (.t 6), none⟩,
   ⟨some 41, .mov (.t 7), none⟩,
   ⟨some 42, .mov (.t 8), none⟩,
   ⟨some 43, .call 20 [(.t 39), (.t 40), (.t 41), (.t 42)], none⟩,
   ⟨some 38, .mov (.t 43), none⟩,
   ⟨some 44, .ext 0 (.t 38), none⟩,
   ⟨some 45, .ext 1 (.t 38), none⟩,
   ⟨some 12, .mov (.t 44), none⟩,
   ⟨some 13, .mov (.t 45), none⟩] [0, 1, 2, 3, 4, 5, 6, 7, 8, 9] [])
 (.seq
 (.seq
 (.region [⟨some 46, .mov (.t 13), none⟩,
   ⟨some 47, .bin .neq (.t 46) (.k (.v (.one (.int .i64 0)))), none⟩,
   ⟨some 48, .mov (.t 47), none⟩,
   ⟨some 49, .mov (.t 12), some (48, false)⟩,
   ⟨some 50, .len (.t 49), some (48, false)⟩,
   ⟨some 51, .mov (.t 5), some (48, false)⟩,
   ⟨some 52, .len (.t 51), some (48, false)⟩,
   ⟨some 53, .bin .geq (.t 50) (.t 52), some (48, false)⟩,
   ⟨some 54, .pick (.t 48) (.k (.v (.one (.bool true)))) (.t 53), none⟩] [0, 1, 2, 3, 4, 5, 6, 7, 8] [])
 (.cond (.t 54)
  (.seq
  (.region [⟨some 4, .mov (.k (.v (.one (.bool false)))), none⟩] [0] [])
  .ret)
  .skip [4, 5, 6, 7, 8, 9, 10, 12]))
 (.seq
 (.seq
 (.region [⟨some 55, .mov (.t 12), none⟩,
   ⟨some 56, .len (.t 55), none⟩,
   ⟨some 57, .mov (.k (.v (.one (.int .i64 0)))), none⟩] [0, 1, 2] [])
 (.block 0
  (.loop [5, 6, 7, 8, 9, 10, 55, 56, 57]
   (.seq
   (.region [⟨some 58, .bin .lss (.t 57) (.t 56), none⟩] [0] [])
   (.seq
   (.cond (.t 58)
    .skip
    (.exit 0) [5, 6, 7, 8, 9, 10, 55, 56, 57])
   (.seq
   (.block 1
    (.seq
    (.region [⟨some 59, .iadr 1 (.t 55) (.t 57), none⟩,
      ⟨some 60, .load none (.t 59), none⟩,
      ⟨some 15, .mov (.t 60), none⟩] [0, 1, 2] [])
    (.seq
    (.seq
    (.region [⟨some 61, .mov (.t 15), none⟩,
      ⟨some 62, .bin .lss (.t 61) (.k (.v (.one (.int .i64 0)))), none⟩,
      ⟨some 63, .mov (.t 62), none⟩,
      ⟨some 64, .mov (.t 15), some (63, false)⟩,
      ⟨some 65, .mov (.t 6), some (63, false)⟩,
      ⟨some 66, .len (.t 65), some (63, false)⟩,
      ⟨some 67, .bin .geq (.t 64) (.t 66), some (63, false)⟩,
      ⟨some 68, .pick (.t 63) (.k (.v (.one (.bool true)))) (.t 67), none⟩,
      ⟨some 69, .mov (.t 68), none⟩,
      ⟨some 70, .mov (.t 6), some (69, false)⟩,
      ⟨some 71, .mov (.t 15), some (69, false)⟩,
      ⟨some 72, .iadr 4 (.t 70) (.t 71), some (69, false)⟩,
      ⟨some 73, .fadr 1 (.t 72), some (69, false)⟩,
      ⟨some 74, .load none (.t 73), some (69, false)⟩,
      ⟨some 75, .mov (.t 8), some (69, false)⟩,
      ⟨some 76, .bin .neq (.t 74) (.t 75), some (69, false)⟩,
      ⟨some 77, .pick (.t 69) (.k (.v (.one (.bool true)))) (.t 76), none⟩,
      ⟨some 78, .mov (.t 77), none⟩,
      ⟨some 79, .mov (.t 10), some (78, false)⟩,
      ⟨some 80, .mov (.t 15), some (78, false)⟩,
      ⟨some 81, .iadr 1 (.t 79) (.t 80), some (78, false)⟩,
      ⟨some 82, .load none (.t 81), some (78, false)⟩,
      ⟨some 83, .not (.t 82), some (78, false)⟩,
      ⟨some 84, .pick (.t 78) (.k (.v (.one (.bool true)))) (.t 83), none⟩,
      ⟨some 85, .mov (.t 84), none⟩,
      ⟨some 86, .mov (.t 9), some (85, false)⟩,
      ⟨some 87, .mov (.t 6), some (85, false)⟩,
      ⟨some 88, .mov (.t 15), some (85, false)⟩,
      ⟨some 89, .iadr 4 (.t 87) (.t 88), some (85, false)⟩,
      ⟨some 90, .fadr 0 (.t 89), some (85, false)⟩,
      ⟨some 91, .load none (.t 90), some (85, false)⟩,
      ⟨some 92, .iadr 1 (.t 86) (.t 91), some (85, false)⟩,
      ⟨some 93, .load none (.t 92), some (85, false)⟩,
      ⟨some 94, .mov (.t 6), some (85, false)⟩,
      ⟨some 95, .mov (.t 15), some (85, false)⟩,
      ⟨some 96, .iadr 4 (.t 94) (.t 95), some (85, false)⟩,
      ⟨some 97, .fadr 2 (.t 96), some (85, false)⟩,
      ⟨some 98, .load none (.t 97), some (85, false)⟩,
      ⟨some 99, .bin .add (.t 93) (.t 98), some (85, false)⟩,
      ⟨some 100, .mov (.t 9), some (85, false)⟩,
      ⟨some 101, .mov (.t 8), some (85, false)⟩,
      ⟨some 102, .iadr 1 (.t 100) (.t 101), some (85, false)⟩,
      ⟨some 103, .load none (.t 102), some (85, false)⟩,
      ⟨some 104, .bin .gtr (.t 99) (.t 103), some (85, false)⟩,
      ⟨some 105, .pick (.t 85) (.k (.v (.one (.bool true)))) (.t 104), none⟩] [0, 1, 2, 3, 4, 5, 6, 7, 8, 9, 10, 11, 12, 13, 14, 15, 16, 17, 18, 19, 20, 21, 22, 23, 24, 25, 26, 27, 28, 29, 30, 31, 32, 33, 34, 35, 36, 37, 38, 39, 40, 41, 42, 43, 44] [])
    (.cond (.t 105)
     (.seq
     (.region [⟨some 4, .mov (.k (.v (.one (.bool false)))), none⟩] [0] [])
     .ret)
     .skip [4, 5, 6, 7, 9, 10, 15, 55, 56, 57]))
    (.region [⟨some 106, .mov (.t 6), none⟩,
      ⟨some 107, .mov (.t 15), none⟩,
      ⟨some 108, .iadr 4 (.t 106) (.t 107), none⟩,
      ⟨some 109, .fadr 0 (.t 108), none⟩,
      ⟨some 110, .load none (.t 109), none⟩,
      ⟨some 8, .mov (.t 110), none⟩] [0, 1, 2, 3, 4, 5] []))))
   (.region [⟨some 111, .bin .add (.t 57) (.k (.v (.one (.int .i64 1)))), none⟩,
     ⟨some 57, .mov (.t 111), none⟩] [0, 1] [])))))))
 (.seq
 (.region [⟨some 113, .mov (.t 5), none⟩,
   ⟨some 114, .mov (.t 6), none⟩,
   ⟨some 115, .mov (.t 7), none⟩,
   ⟨some 116, .mov (.t 5), none⟩,
   ⟨some 117, .len (.t 116), none⟩,
   ⟨some 118, .call 20 [(.t 113), (.t 114), (.t 115), (.t 117)], none⟩,
   ⟨some 112, .mov (.t 118), none⟩,
   ⟨some 119, .ext 0 (.t 112), none⟩,
   ⟨some 120, .ext 1 (.t 112), none⟩,
   ⟨some 16, .mov (.t 119), none⟩,
   ⟨some 17, .mov (.t 120), none⟩] [0, 1, 2, 3, 4, 5, 6, 7, 8, 9, 10] [])
 (.seq
 (.region [⟨some 122, .mov (.t 5), none⟩,
   ⟨some 123, .mov (.t 6), none⟩,
   ⟨some 124, .mov (.t 7), none⟩,
   ⟨some 125, .call 20 [(.t 122), (.t 123), (.t 124), (.k (.v (.one (.int .i64 (-1)))))], none⟩,
   ⟨some 121, .mov (.t 125), none⟩,
   ⟨some 126, .ext 0 (.t 121), none⟩,
   ⟨some 127, .ext 1 (.t 121), none⟩,
   ⟨some 18, .mov (.t 126), none⟩,
   ⟨some 19, .mov (.t 127), none⟩] [0, 1, 2, 3, 4, 5, 6, 7, 8] [])
 (.seq
 (.region [⟨some 128, .call 14 [], none⟩,
   ⟨some 129, .mov (.t 128), none⟩,
   ⟨some 130, .mov (.t 17), some (129, true)⟩,
   ⟨some 131, .bin .eql (.t 130) (.k (.v (.one (.int .i64 4)))), some (129, true)⟩,
   ⟨some 132, .pick (.t 129) (.t 131) (.k (.v (.one (.bool false)))), none⟩,
   ⟨some 133, .mov (.t 132), none⟩,
   ⟨some 134, .mov (.t 19), some (133, true)⟩,
   ⟨some 135, .bin .eql (.t 134) (.k (.v (.one (.int .i64 4)))), some (133, true)⟩,
   ⟨some 136, .pick (.t 133) (.t 135) (.k (.v (.one (.bool false)))), none⟩,
   ⟨some 4, .mov (.t 136), none⟩] [0, 1, 2, 3, 4, 5, 6, 7, 8, 9] [])
 .ret))))))))))⟩
theorem t10 : tell Try.prog Try.f10 [([4, 5, 6, 7, 8, 9, 10, 12], [], []), ([5, 6, 7, 8, 9, 10, 55, 56, 57], [], []), ([5, 6, 7, 8, 9, 10, 55, 56, 57], [], []), ([0, 1, 2, 3, 4, 5, 6, 7, 8, 9, 10, 11, 12, 13, 14, 15, 16, 17, 18, 19, 20, 21, 22, 23, 24, 25, 26, 27, 28, 29, 30, 31, 32, 33, 34, 35, 36, 37, 38, 39, 40, 41, 42, 43, 44], [], [0, 1, 3, 7, 7, 23, 63, 127, 255, 511, 511, 2047, 4095, 8191, 511, 32767, 65535, 131071, 262143, 262143, 1048575, 2097151, 4194303, 8388607, 16777215, 33554431, 33554431, 33554431, 234881023, 503316479, 1040187391, 2147483647, 4294967295, 33554431, 33554431, 25803358207, 60163096575, 128882573311, 274877906943, 33554431, 33554431, 1649300996095, 3848324251647, 8796093022207, 17592186044415]), ([4, 5, 6, 7, 9, 10, 15, 55, 56, 57], [], [])] = some a10 := by kernel_rfl
theorem ok10 : FuncOk Try.prog 10 a10 := tell_ok Try.func10 t10

/-- railplan/railplanlaw34.DelayExample -/
def a11 : AFunc := ⟨0, [0], none,
 (.seq
 (.region [⟨some 0, .mov (.k (.v (.one (.bool false)))), none⟩] [0] [])
 (.seq
 (.region [⟨some 12, .call 25 [(.k (.v (.one (.int .i64 60))))], none⟩,
   ⟨some 11, .mov (.t 12), none⟩,
   ⟨some 13, .ext 0 (.t 11), none⟩,
   ⟨some 14, .ext 1 (.t 11), none⟩,
   ⟨some 15, .ext 2 (.t 11), none⟩,
   ⟨some 1, .mov (.t 13), none⟩,
   ⟨some 2, .mov (.t 14), none⟩,
   ⟨some 3, .mov (.t 15), none⟩] [0, 1, 2, 3, 4, 5, 6, 7] [])
 (.seq
 (.region [⟨some 17, .mov (.t 1), none⟩,
   ⟨some 18, .mov (.t 2), none⟩,
   ⟨some 19, .mov (.t 3), none⟩,
   ⟨some 20, .call 13 [(.t 17), (.t 18), (.t 19)], none⟩,
   ⟨some 16, .mov (.t 20), none⟩,
   ⟨some 21, .ext 0 (.t 16), none⟩,
   ⟨some 22, .ext 1 (.t 16), none⟩,
   ⟨some 23, .ext 2 (.t 16), none⟩,
   ⟨some 4, .mov (.t 21), none⟩,
   ⟨some 5, .mov (.t 22), none⟩,
   ⟨some 6, .mov (.t 23), none⟩] [0, 1, 2, 3, 4, 5, 6, 7, 8, 9, 10] [])
 (.seq
 (.region [⟨some 25, .mov (.t 1), none⟩,
   ⟨some 26, .mov (.t 2), none⟩,
   ⟨some 27, .mov (.t 3), none⟩,
   ⟨some 28, .call 20 [(.t 25), (.t 26), (.t 27), (.k (.v (.one (.int .i64 2))))], none⟩,
   ⟨some 24, .mov (.t 28), none⟩,
   ⟨some 29, .ext 0 (.t 24), none⟩,
   ⟨some 30, .ext 1 (.t 24), none⟩,
   ⟨some 7, .mov (.t 29), none⟩,
   ⟨some 8, .mov (.t 30), none⟩] [0, 1, 2, 3, 4, 5, 6, 7, 8] [])
 (.seq
 (.region [⟨some 32, .mov (.t 1), none⟩,
   ⟨some 33, .mov (.t 4), none⟩,
   ⟨some 34, .call 17 [(.t 32), (.t 33)], none⟩,
   ⟨some 31, .mov (.t 34), none⟩,
   ⟨some 35, .ext 0 (.t 31), none⟩,
   ⟨some 36, .ext 1 (.t 31), none⟩,
   ⟨some 9, .mov (.t 35), none⟩,
   ⟨some 10, .mov (.t 36), none⟩] [0, 1, 2, 3, 4, 5, 6, 7] [])
 (.seq
 (.region [⟨some 37, .call 14 [], none⟩,
   ⟨some 38, .mov (.t 37), none⟩,
   ⟨some 39, .mov (.t 6), some (38, true)⟩,
   ⟨some 40, .bin .eql (.t 39) (.k (.v (.one (.int .i64 0)))), some (38, true)⟩,
   ⟨some 41, .pick (.t 38) (.t 40) (.k (.v (.one (.bool false)))), none⟩,
   ⟨some 42, .mov (.t 41), none⟩,
   ⟨some 43, .mov (.t 8), some (42, true)⟩,
   ⟨some 44, .bin .eql (.t 43) (.k (.v (.one (.int .i64 0)))), some (42, true)⟩,
   ⟨some 45, .pick (.t 42) (.t 44) (.k (.v (.one (.bool false)))), none⟩,
   ⟨some 46, .mov (.t 45), none⟩,
   ⟨some 47, .mov (.t 10), some (46, true)⟩,
   ⟨some 48, .bin .eql (.t 47) (.k (.v (.one (.int .i64 0)))), some (46, true)⟩,
   ⟨some 49, .pick (.t 46) (.t 48) (.k (.v (.one (.bool false)))), none⟩,
   ⟨some 50, .mov (.t 49), none⟩,
   ⟨some 51, .mov (.t 4), some (50, true)⟩,
   ⟨some 52, .bsl 3 1 3 [(.int .i64 0)] [(0, 1, (.k (.v (.one (.int .i64 160))))), (1, 1, (.k (.v (.one (.int .i64 210))))), (2, 1, (.k (.v (.one (.int .i64 230)))))], some (50, true)⟩,
   ⟨some 53, .call 19 [(.t 51), (.t 52)], some (50, true)⟩,
   ⟨some 54, .pick (.t 50) (.t 53) (.k (.v (.one (.bool false)))), none⟩,
   ⟨some 55, .mov (.t 54), none⟩,
   ⟨some 56, .mov (.t 7), some (55, true)⟩,
   ⟨some 57, .bsl 3 1 2 [(.int .i64 0)] [(0, 1, (.k (.v (.one (.int .i64 1))))), (1, 1, (.k (.v (.one (.int .i64 0)))))], some (55, true)⟩,
   ⟨some 58, .call 19 [(.t 56), (.t 57)], some (55, true)⟩,
   ⟨some 59, .pick (.t 55) (.t 58) (.k (.v (.one (.bool false)))), none⟩,
   ⟨some 60, .mov (.t 59), none⟩,
   ⟨some 61, .mov (.t 9), some (60, true)⟩,
   ⟨some 62, .bsl 3 1 3 [(.int .i64 0)] [(0, 1, (.k (.v (.one (.int .i64 60))))), (1, 1, (.k (.v (.one (.int .i64 50))))), (2, 1, (.k (.v (.one (.int .i64 30)))))], some (60, true)⟩,
   ⟨some 63, .call 19 [(.t 61), (.t 62)], some (60, true)⟩,
   ⟨some 64, .pick (.t 60) (.t 63) (.k (.v (.one (.bool false)))), none⟩,
   ⟨some 0, .mov (.t 64), none⟩] [0, 1, 2, 3, 4, 5, 6, 7, 8, 9, 10, 11, 12, 13, 14, 15, 16, 17, 18, 19, 20, 21, 22, 23, 24, 25, 26, 27, 28] [])
 .ret))))))⟩
theorem t11 : tell Try.prog Try.f11 [] = some a11 := by kernel_rfl
theorem ok11 : FuncOk Try.prog 11 a11 := tell_ok Try.func11 t11

/-- railplan/railplankeep2.Delay -/
def a12 : AFunc := ⟨1, [2, 3, 4], none,
 (.seq
 (.region [⟨some 2, .mov (.k (.v (.one .nils))), none⟩,
   ⟨some 3, .mov (.k (.v (.one .nils))), none⟩,
   ⟨some 4, .mov (.k (.v (.one .nils))), none⟩] [0, 1, 2] [])
 (.seq
 (.region [⟨some 13, .mov (.t 0), none⟩,
   ⟨some 14, .call 26 [(.t 13)], none⟩,
   ⟨some 5, .mov (.t 14), none⟩] [0, 1, 2] [])
 (.seq
 (.region [⟨some 6, .mov (.k (.v (.one .nils))), none⟩] [0] [])
 (.seq
 (.region [⟨some 7, .mov (.k (.v (.one .nils))), none⟩] [0] [])
 (.seq
 (.region [⟨some 8, .mov (.k (.v (.one .nils))), none⟩] [0] [])
 (.seq
 (.region [⟨some 15, .mov (.t 5), none⟩,
   ⟨some 16, .call 27 [(.t 15), (.k (.v (.one (.int .i64 6))))], none⟩,
   ⟨some 17, .bin .add (.k (.v (.one (.int .i64 1)))) (.t 16), none⟩,
   ⟨some 9, .mov (.t 17), none⟩] [0, 1, 2, 3] [])
 (.seq
 (.seq
 (.region [⟨some 10, .mov (.k (.v (.one (.int .i64 0)))), none⟩] [0] [])
 (.block 0
  (.loop [5, 6, 7, 8, 9, 10]
   (.seq
   (.seq
   (.region [⟨some 18, .mov (.t 10), none⟩,
     ⟨some 19, .mov (.t 9), none⟩,
     ⟨some 20, .bin .lss (.t 18) (.t 19), none⟩] [0, 1, 2] [])
   (.cond (.t 20)
    .skip
    (.exit 0) [5, 6, 7, 8, 9, 10]))
   (.seq
   (.block 1
    (.seq
    (.region [⟨some 23, .mov (.t 6), none⟩,
      ⟨some 24, .mov (.t 10), none⟩,
      ⟨some 25, .bin .mul (.k (.v (.one (.int .i64 20)))) (.t 24), none⟩,
      ⟨some 26, .mov (.t 5), none⟩,
      ⟨some 27, .call 27 [(.t 26), (.k (.v (.one (.int .i64 30))))], none⟩,
      ⟨some 28, .bin .add (.t 25) (.t 27), none⟩,
      ⟨some 29, .mov (.t 5), none⟩,
      ⟨some 30, .call 27 [(.t 29), (.k (.v (.one (.int .i64 2))))], none⟩,
      ⟨some 31, .bin .eql (.t 30) (.k (.v (.one (.int .i64 0)))), none⟩,
      ⟨some 32, .build [(.int .i64 0), (.bool false)] [(0, 1, (.t 28)), (1, 1, (.t 31))], none⟩,
      ⟨some 33, .bsl 33 2 1 [(.int .i64 0), (.bool false)] [(0, 2, (.t 32))], none⟩,
      ⟨some 34, .app 33 2 16 (.t 23) (.t 33), none⟩,
      ⟨some 6, .mov (.t 34), none⟩] [0, 1, 2, 3, 4, 5, 6, 7, 8, 9, 10, 11, 12] [])
    (.seq
    (.seq
    (.region [⟨some 35, .mov (.t 5), none⟩,
      ⟨some 36, .call 27 [(.t 35), (.k (.v (.one (.int .i64 3))))], none⟩,
      ⟨some 11, .mov (.t 36), none⟩] [0, 1, 2] [])
    (.block 2
     (.loop [5, 6, 7, 8, 9, 10, 11]
      (.seq
      (.seq
      (.region [⟨some 37, .mov (.t 11), none⟩,
        ⟨some 38, .bin .gtr (.t 37) (.k (.v (.one (.int .i64 0)))), none⟩,
        ⟨some 39, .mov (.t 38), none⟩,
        ⟨some 40, .mov (.t 10), some (39, true)⟩,
        ⟨some 41, .bin .gtr (.t 40) (.k (.v (.one (.int .i64 0)))), some (39, true)⟩,
        ⟨some 42, .pick (.t 39) (.t 41) (.k (.v (.one (.bool false)))), none⟩] [0, 1, 2, 3, 4, 5] [])
      (.cond (.t 42)
       .skip
       (.exit 2) [5, 6, 7, 8, 9, 10, 11]))
      (.seq
      (.block 3
       (.seq
       (.region [⟨some 45, .mov (.t 7), none⟩,
         ⟨some 46, .mov (.t 5), none⟩,
         ⟨some 47, .mov (.t 10), none⟩,
         ⟨some 48, .call 27 [(.t 46), (.t 47)], none⟩,
         ⟨some 49, .mov (.t 10), none⟩,
         ⟨some 50, .mov (.t 5), none⟩,
         ⟨some 51, .call 27 [(.t 50), (.k (.v (.one (.int .i64 40))))], none⟩,
         ⟨some 52, .mov (.t 5), none⟩,
         ⟨some 53, .call 27 [(.t 52), (.k (.v (.one (.int .i64 50))))], none⟩,
         ⟨some 54, .bin .sub (.t 53) (.k (.v (.one (.int .i64 25)))), none⟩,
         ⟨some 55, .build [(.int .i64 0), (.int .i64 0), (.int .i64 0), (.int .i64 0)] [(0, 1, (.t 48)), (1, 1, (.t 49)), (2, 1, (.t 51)), (3, 1, (.t 54))], none⟩,
         ⟨some 56, .bsl 35 4 1 [(.int .i64 0), (.int .i64 0), (.int .i64 0), (.int .i64 0)] [(0, 4, (.t 55))], none⟩,
         ⟨some 57, .app 35 4 32 (.t 45) (.t 56), none⟩,
         ⟨some 7, .mov (.t 57), none⟩] [0, 1, 2, 3, 4, 5, 6, 7, 8, 9, 10, 11, 12, 13] [])
       (.seq
       (.region [⟨some 58, .mov (.t 7), none⟩,
         ⟨some 59, .mov (.t 7), none⟩,
         ⟨some 60, .len (.t 59), none⟩,
         ⟨some 61, .bin .sub (.t 60) (.k (.v (.one (.int .i64 1)))), none⟩,
         ⟨some 62, .iadr 4 (.t 58) (.t 61), none⟩,
         ⟨some 12, .mov (.t 62), none⟩] [0, 1, 2, 3, 4, 5] [])
       (.seq
       (.region [⟨some 63, .mov (.t 12), none⟩,
         ⟨some 64, .nilchk (.t 63), none⟩,
         ⟨some 65, .fadr 3 (.t 64), none⟩,
         ⟨some 66, .load none (.t 65), none⟩,
         ⟨some 67, .bin .lss (.t 66) (.k (.v (.one (.int .i64 0)))), none⟩] [0, 1, 2, 3, 4] [])
       (.cond (.t 67)
        (.region [⟨some 68, .mov (.t 12), none⟩,
          ⟨some 69, .nilchk (.t 68), none⟩,
          ⟨some 70, .fadr 3 (.t 69), none⟩,
          ⟨none, .store 1 (.t 70) (.k (.v (.one (.int .i64 (-1))))), none⟩] [0, 1, 2, 3] [])
        .skip [5, 6, 7, 8, 9, 10, 11])))))
      (.region [⟨some 43, .mov (.t 11), none⟩,
        ⟨some 44, .bin .sub (.t 43) (.k (.v (.one (.int .i64 1)))), none⟩,
        ⟨some 11, .mov (.t 44), none⟩] [0, 1, 2] []))))))
    (.seq
    (.region [⟨some 71, .mov (.t 5), none⟩,
      ⟨some 72, .call 27 [(.t 71), (.k (.v (.one (.int .i64 3))))], none⟩,
      ⟨some 73, .bin .eql (.t 72) (.k (.v (.one (.int .i64 0)))), none⟩] [0, 1, 2] [])
    (.cond (.t 73)
     (.region [⟨some 74, .mov (.t 8), none⟩,
       ⟨some 75, .mov (.t 10), none⟩,
       ⟨some 76, .mov (.t 5), none⟩,
       ⟨some 77, .call 27 [(.t 76), (.k (.v (.one (.int .i64 60))))], none⟩,
       ⟨some 78, .build [(.int .i64 0), (.int .i64 0)] [(0, 1, (.t 75)), (1, 1, (.t 77))], none⟩,
       ⟨some 79, .bsl 39 2 1 [(.int .i64 0), (.int .i64 0)] [(0, 2, (.t 78))], none⟩,
       ⟨some 80, .app 39 2 16 (.t 74) (.t 79), none⟩,
       ⟨some 8, .mov (.t 80), none⟩] [0, 1, 2, 3, 4, 5, 6, 7] [])
     .skip [5, 6, 7, 8, 9, 10])))))
   (.region [⟨some 21, .mov (.t 10), none⟩,
     ⟨some 22, .bin .add (.t 21) (.k (.v (.one (.int .i64 1)))), none⟩,
     ⟨some 10, .mov (.t 22), none⟩] [0, 1, 2] []))))))
 (.seq
 (.region [⟨some 81, .mov (.t 6), none⟩,
   ⟨some 82, .mov (.t 7), none⟩,
   ⟨some 83, .mov (.t 8), none⟩,
   ⟨some 2, .mov (.t 81), none⟩,
   ⟨some 3, .mov (.t 82), none⟩,
   ⟨some 4, .mov (.t 83), none⟩] [0, 1, 2, 3, 4, 5] [])
 .ret))))))))⟩
theorem t12 : tell Try.prog Try.f12 [([5, 6, 7, 8, 9, 10], [], []), ([5, 6, 7, 8, 9, 10], [], []), ([5, 6, 7, 8, 9, 10, 11], [], []), ([5, 6, 7, 8, 9, 10, 11], [], []), ([5, 6, 7, 8, 9, 10, 11], [], []), ([5, 6, 7, 8, 9, 10], [], [])] = some a12 := by kernel_rfl
theorem ok12 : FuncOk Try.prog 12 a12 := tell_ok Try.func12 t12

/-- railplan/delay.Propagate -/
def a13 : AFunc := ⟨3, [6, 7, 8], none,
 (.seq
 (.region [⟨some 6, .mov (.k (.v (.one .nils))), none⟩,
   ⟨some 7, .mov (.k (.v (.one .nils))), none⟩,
   ⟨some 8, .mov (.k (.v (.one (.int .i64 0)))), none⟩] [0, 1, 2] [])
 (.seq
 (.seq
 (.region [⟨some 10, .mov (.t 0), none⟩,
   ⟨some 11, .mov (.t 1), none⟩,
   ⟨some 12, .mov (.t 2), none⟩,
   ⟨some 13, .call 22 [(.t 10), (.t 11), (.t 12)], none⟩,
   ⟨some 14, .not (.t 13), none⟩] [0, 1, 2, 3, 4] [])
 (.cond (.t 14)
  (.seq
  (.region [⟨some 6, .mov (.k (.v (.one .nils))), none⟩,
    ⟨some 7, .mov (.k (.v (.one .nils))), none⟩,
    ⟨some 8, .mov (.k (.v (.one (.int .i64 1)))), none⟩] [0, 1, 2] [])
  .ret)
  .skip [0, 1, 2, 6, 7, 8]))
 (.seq
 (.region [⟨some 15, .mov (.t 0), none⟩,
   ⟨some 16, .mov (.t 1), none⟩,
   ⟨some 17, .mov (.t 2), none⟩,
   ⟨some 18, .call 28 [(.t 15), (.t 16), (.t 17)], none⟩,
   ⟨some 9, .new 58 [.nils, .nils, .nils], none⟩,
   ⟨none, .store 3 (.t 9) (.t 18), none⟩] [0, 1, 2, 3, 4, 5] [])
 (.seq
 (.region [⟨some 19, .fadr 1 (.t 9), none⟩,
   ⟨some 20, .load none (.t 19), none⟩,
   ⟨some 21, .fadr 2 (.t 9), none⟩,
   ⟨some 22, .load none (.t 21), none⟩,
   ⟨some 6, .mov (.t 20), none⟩,
   ⟨some 7, .mov (.t 22), none⟩,
   ⟨some 8, .mov (.k (.v (.one (.int .i64 0)))), none⟩] [0, 1, 2, 3, 4, 5, 6] [])
 .ret))))⟩
theorem t13 : tell Try.prog Try.f13 [([0, 1, 2, 6, 7, 8], [], []), ([0, 1, 2, 3, 4, 5, 6], [], [0, 1, 0, 4, 3, 31, 63])] = some a13 := by kernel_rfl
theorem ok13 : FuncOk Try.prog 13 a13 := tell_ok Try.func13 t13

/-- railplan/railplanlaw34.awake -/
def a14 : AFunc := ⟨0, [0], none,
 (.seq
 (.region [⟨some 0, .mov (.k (.v (.one (.bool false)))), none⟩] [0] [])
 (.seq
 (.region [⟨some 8, .call 25 [(.k (.v (.one (.int .i64 90))))], none⟩,
   ⟨some 7, .mov (.t 8), none⟩,
   ⟨some 9, .ext 0 (.t 7), none⟩,
   ⟨some 10, .ext 1 (.t 7), none⟩,
   ⟨some 11, .ext 2 (.t 7), none⟩,
   ⟨some 1, .mov (.t 9), none⟩,
   ⟨some 2, .mov (.t 10), none⟩,
   ⟨some 3, .mov (.t 11), none⟩] [0, 1, 2, 3, 4, 5, 6, 7] [])
 (.seq
 (.region [⟨some 13, .mov (.t 1), none⟩,
   ⟨some 14, .mov (.t 2), none⟩,
   ⟨some 15, .mov (.t 3), none⟩,
   ⟨some 16, .call 13 [(.t 13), (.t 14), (.t 15)], none⟩,
   ⟨some 12, .mov (.t 16), none⟩,
   ⟨some 17, .ext 0 (.t 12), none⟩,
   ⟨some 18, .ext 1 (.t 12), none⟩,
   ⟨some 19, .ext 2 (.t 12), none⟩,
   ⟨some 4, .mov (.t 17), none⟩,
   ⟨some 5, .mov (.t 18), none⟩,
   ⟨some 6, .mov (.t 19), none⟩] [0, 1, 2, 3, 4, 5, 6, 7, 8, 9, 10] [])
 (.seq
 (.region [⟨some 20, .mov (.t 6), none⟩,
   ⟨some 21, .bin .eql (.t 20) (.k (.v (.one (.int .i64 0)))), none⟩,
   ⟨some 22, .mov (.t 21), none⟩,
   ⟨some 23, .mov (.t 4), some (22, true)⟩,
   ⟨some 24, .bsl 3 1 3 [(.int .i64 0)] [(0, 1, (.k (.v (.one (.int .i64 190))))), (1, 1, (.k (.v (.one (.int .i64 240))))), (2, 1, (.k (.v (.one (.int .i64 200)))))], some (22, true)⟩,
   ⟨some 25, .call 19 [(.t 23), (.t 24)], some (22, true)⟩,
   ⟨some 26, .pick (.t 22) (.t 25) (.k (.v (.one (.bool false)))), none⟩,
   ⟨some 27, .mov (.t 26), none⟩,
   ⟨some 28, .mov (.t 5), some (27, true)⟩,
   ⟨some 29, .bsl 4 1 2 [(.bool false)] [(0, 1, (.k (.v (.one (.bool true))))), (1, 1, (.k (.v (.one (.bool false)))))], some (27, true)⟩,
   ⟨some 30, .call 24 [(.t 28), (.t 29)], some (27, true)⟩,
   ⟨some 31, .pick (.t 27) (.t 30) (.k (.v (.one (.bool false)))), none⟩,
   ⟨some 32, .mov (.t 31), none⟩,
   ⟨some 33, .mov (.t 1), some (32, true)⟩,
   ⟨some 34, .mov (.t 2), some (32, true)⟩,
   ⟨some 35, .mov (.t 3), some (32, true)⟩,
   ⟨some 36, .call 22 [(.t 33), (.t 34), (.t 35)], some (32, true)⟩,
   ⟨some 37, .pick (.t 32) (.t 36) (.k (.v (.one (.bool false)))), none⟩,
   ⟨some 0, .mov (.t 37), none⟩] [0, 1, 2, 3, 4, 5, 6, 7, 8, 9, 10, 11, 12, 13, 14, 15, 16, 17, 18] [])
 .ret))))⟩
theorem t14 : tell Try.prog Try.f14 [] = some a14 := by kernel_rfl
theorem ok14 : FuncOk Try.prog 14 a14 := tell_ok Try.func14 t14

/-- railplan/railplankeep.Pick -/
def a15 : AFunc := ⟨2, [4], none,
 (.seq
 (.region [⟨some 4, .mov (.k (.v (.one (.int .i64 0)))), none⟩] [0] [])
 (.seq
 (.region [⟨some 5, .mov (.t 0), none⟩,
   ⟨some 6, .conv .u64 (.t 5), none⟩,
   ⟨some 7, .mov (.t 1), none⟩,
   ⟨some 8, .conv .u64 (.t 7), none⟩,
   ⟨some 9, .bin .rem (.t 6) (.t 8), none⟩,
   ⟨some 10, .conv .i64 (.t 9), none⟩,
   ⟨some 4, .mov (.t 10), none⟩] [0, 1, 2, 3, 4, 5, 6] [])
 .ret))⟩
theorem t15 : tell Try.prog Try.f15 [] = some a15 := by kernel_rfl
theorem ok15 : FuncOk Try.prog 15 a15 := tell_ok Try.func15 t15

end Go.Proofs.Ythoicdnlcnppgaa.Fn
