/- Functions of the program, as the abstract machine's, and that they are. Conditions: none. -/
import Derived.Test.YthoicdnlcnppgaaAmCo
import Derived.Test.YthoicdnlcnppgaaProg
set_option linter.unusedVariables false
namespace Go.Proofs.Ythoicdnlcnppgaa.Fn
open Go Go.Am
set_option maxRecDepth 100000
/-- railplan/railplanref30.Propagate -/
def a16 : AFunc := ⟨3, [6, 7, 8], none,
 (.seq
 (.region [⟨some 6, .mov (.k (.v (.one .nils))), none⟩,
   ⟨some 7, .mov (.k (.v (.one .nils))), none⟩,
   ⟨some 8, .mov (.k (.v (.one (.int .i64 0)))), none⟩] [0, 1, 2] [])
 (.seq
 (.seq
 (.region [⟨some 20, .mov (.t 0), none⟩,
   ⟨some 21, .mov (.t 1), none⟩,
   ⟨some 22, .mov (.t 2), none⟩,
   ⟨some 23, .call 23 [(.t 20), (.t 21), (.t 22)], none⟩,
   ⟨some 24, .not (.t 23), none⟩] [0, 1, 2, 3, 4] [])
 (.cond (.t 24)
  (.seq
  (.region [⟨some 6, .mov (.k (.v (.one .nils))), none⟩,
    ⟨some 7, .mov (.k (.v (.one .nils))), none⟩,
    ⟨some 8, .mov (.k (.v (.one (.int .i64 1)))), none⟩] [0, 1, 2] [])
  .ret)
  .skip [0, 1, 2, 6, 7, 8]))
 (.seq
 (.region [⟨some 25, .mov (.t 0), none⟩,
   ⟨some 26, .len (.t 25), none⟩,
   ⟨some 27, .mks 3 1 8 [(.int .i64 0)] (.t 26) (.t 26), none⟩,
   ⟨some 9, .mov (.t 27), none⟩] [0, 1, 2, 3] [])
 (.seq
 (.region [⟨some 28, .mov (.t 1), none⟩,
   ⟨some 29, .len (.t 28), none⟩,
   ⟨some 30, .mks 4 1 1 [(.bool false)] (.t 29) (.t 29), none⟩,
   ⟨some 10, .mov (.t 30), none⟩] [0, 1, 2, 3] [])
 (.seq
 (.region [⟨some 32, .mov (.t 0), none⟩,
   ⟨some 33, .len (.t 32), none⟩,
   ⟨some 34, .mov (.t 1), none⟩,
   ⟨some 35, .call 29 [(.t 33), (.t 34)], none⟩,
   ⟨some 31, .mov (.t 35), none⟩,
   ⟨some 36, .ext 0 (.t 31), none⟩,
   ⟨some 37, .ext 1 (.t 31), none⟩,
   ⟨some 11, .mov (.t 36), none⟩,
   ⟨some 12, .mov (.t 37), none⟩] [0, 1, 2, 3, 4, 5, 6, 7, 8] [])
 (.seq
 (.seq
 (.region [⟨some 38, .mov (.t 11), none⟩,
   ⟨some 39, .len (.t 38), none⟩,
   ⟨some 40, .mov (.k (.v (.one (.int .i64 0)))), none⟩] [0, 1, 2] [])
 (.block 0
  (.loop [0, 1, 2, 9, 10, 38, 39, 40]
   (.seq
   (.region [⟨some 41, .bin .lss (.t 40) (.t 39), none⟩] [0] [])
   (.seq
   (.cond (.t 41)
    .skip
    (.exit 0) [0, 1, 2, 9, 10, 38, 39, 40])
   (.seq
   (.block 1
    (.seq
    (.region [⟨some 42, .iadr 1 (.t 38) (.t 40), none⟩,
      ⟨some 43, .load none (.t 42), none⟩,
      ⟨some 14, .mov (.t 43), none⟩] [0, 1, 2] [])
    (.seq
    (.region [⟨some 15, .mov (.k (.v (.one (.int .i64 0)))), none⟩,
      ⟨some 16, .mov (.k (.v (.one (.bool false)))), none⟩] [0, 1] [])
    (.seq
    (.seq
    (.region [⟨some 44, .mov (.t 1), none⟩,
      ⟨some 45, .len (.t 44), none⟩,
      ⟨some 46, .mov (.k (.v (.one (.int .i64 0)))), none⟩] [0, 1, 2] [])
    (.block 2
     (.loop [0, 1, 2, 9, 10, 14, 15, 16, 38, 39, 40, 44, 45, 46]
      (.seq
      (.region [⟨some 47, .bin .lss (.t 46) (.t 45), none⟩] [0] [])
      (.seq
      (.cond (.t 47)
       .skip
       (.exit 2) [0, 1, 2, 9, 10, 14, 15, 16, 38, 39, 40, 44, 45, 46])
      (.seq
      (.block 3
       (.seq
       (.region [⟨some 48, .mov (.t 46), none⟩,
         ⟨some 49, .iadr 4 (.t 44) (.t 46), none⟩,
         ⟨some 50, .load (some 4) (.t 49), none⟩,
         ⟨some 18, .new 35 [(.int .i64 0), (.int .i64 0), (.int .i64 0), (.int .i64 0)], none⟩,
         ⟨some 17, .mov (.t 48), none⟩,
         ⟨none, .store 4 (.t 18) (.t 50), none⟩] [0, 1, 2, 3, 4, 5] [])
       (.seq
       (.seq
       (.region [⟨some 51, .fadr 1 (.t 18), none⟩,
         ⟨some 52, .load none (.t 51), none⟩,
         ⟨some 53, .mov (.t 14), none⟩,
         ⟨some 54, .bin .neq (.t 52) (.t 53), none⟩] [0, 1, 2, 3] [])
       (.cond (.t 54)
        (.exit 3)
        .skip [0, 1, 2, 9, 10, 14, 15, 16, 17, 18, 38, 39, 40, 44, 45, 46]))
       (.seq
       (.region [⟨some 55, .mov (.t 9), none⟩,
         ⟨some 56, .fadr 0 (.t 18), none⟩,
         ⟨some 57, .load none (.t 56), none⟩,
         ⟨some 58, .iadr 1 (.t 55) (.t 57), none⟩,
         ⟨some 59, .load none (.t 58), none⟩,
         ⟨some 60, .fadr 2 (.t 18), none⟩,
         ⟨some 61, .load none (.t 60), none⟩,
         ⟨some 62, .bin .add (.t 59) (.t 61), none⟩,
         ⟨some 19, .mov (.t 62), none⟩] [0, 1, 2, 3, 4, 5, 6, 7, 8] [])
       (.seq
       (.region [⟨some 63, .mov (.t 10), none⟩,
         ⟨some 64, .mov (.t 17), none⟩,
         ⟨some 65, .fadr 3 (.t 18), none⟩,
         ⟨some 66, .load none (.t 65), none⟩,
         ⟨some 67, .bin .eql (.t 66) (.k (.v (.one (.int .i64 (-1))))), none⟩,
         ⟨some 68, .mov (.t 67), none⟩,
         ⟨some 69, .mov (.t 19), some (68, false)⟩,
         ⟨some 70, .mov (.t 0), some (68, false)⟩,
         ⟨some 71, .mov (.t 14), some (68, false)⟩,
         ⟨some 72, .iadr 2 (.t 70) (.t 71), some (68, false)⟩,
         ⟨some 73, .fadr 0 (.t 72), some (68, false)⟩,
         ⟨some 74, .load none (.t 73), some (68, false)⟩,
         ⟨some 75, .fadr 3 (.t 18), some (68, false)⟩,
         ⟨some 76, .load none (.t 75), some (68, false)⟩,
         ⟨some 77, .bin .add (.t 74) (.t 76), some (68, false)⟩,
         ⟨some 78, .bin .leq (.t 69) (.t 77), some (68, false)⟩,
         ⟨some 79, .pick (.t 68) (.k (.v (.one (.bool true)))) (.t 78), none⟩,
         ⟨some 80, .iadr 1 (.t 63) (.t 64), none⟩,
         ⟨none, .store 1 (.t 80) (.t 79), none⟩] [0, 1, 2, 3, 4, 5, 6, 7, 8, 9, 10, 11, 12, 13, 14, 15, 16, 17, 18] [])
       (.seq
       (.region [⟨some 81, .mov (.t 10), none⟩,
         ⟨some 82, .mov (.t 17), none⟩,
         ⟨some 83, .iadr 1 (.t 81) (.t 82), none⟩,
         ⟨some 84, .load none (.t 83), none⟩,
         ⟨some 85, .mov (.t 84), none⟩,
         ⟨some 86, .mov (.t 16), some (85, true)⟩,
         ⟨some 87, .not (.t 86), some (85, true)⟩,
         ⟨some 88, .mov (.t 87), some (85, true)⟩,
         ⟨some 89, .mov (.t 19), some (88, false)⟩,
         ⟨some 90, .mov (.t 15), some (88, false)⟩,
         ⟨some 91, .bin .gtr (.t 89) (.t 90), some (88, false)⟩,
         ⟨some 92, .pick (.t 88) (.k (.v (.one (.bool true)))) (.t 91), some (85, true)⟩,
         ⟨some 93, .pick (.t 85) (.t 92) (.k (.v (.one (.bool false)))), none⟩] [0, 1, 2, 3, 4, 5, 6, 7, 8, 9, 10, 11, 12] [])
       (.cond (.t 93)
        (.region [⟨some 94, .mov (.t 19), none⟩,
          ⟨some 15, .mov (.t 94), none⟩,
          ⟨some 16, .mov (.k (.v (.one (.bool true)))), none⟩] [0, 1, 2] [])
        .skip [0, 1, 2, 9, 10, 14, 15, 16, 38, 39, 40, 44, 45, 46])))))))
      (.region [⟨some 95, .bin .add (.t 46) (.k (.v (.one (.int .i64 1)))), none⟩,
        ⟨some 46, .mov (.t 95), none⟩] [0, 1] [])))))))
    (.seq
    (.seq
    (.region [⟨some 96, .mov (.t 0), none⟩,
      ⟨some 97, .mov (.t 14), none⟩,
      ⟨some 98, .iadr 2 (.t 96) (.t 97), none⟩,
      ⟨some 99, .fadr 1 (.t 98), none⟩,
      ⟨some 100, .load none (.t 99), none⟩,
      ⟨some 101, .mov (.t 100), none⟩,
      ⟨some 102, .mov (.t 16), some (101, false)⟩,
      ⟨some 103, .not (.t 102), some (101, false)⟩,
      ⟨some 104, .pick (.t 101) (.k (.v (.one (.bool true)))) (.t 103), none⟩] [0, 1, 2, 3, 4, 5, 6, 7, 8] [])
    (.cond (.t 104)
     (.region [⟨some 105, .mov (.t 15), none⟩,
       ⟨some 106, .mov (.t 0), none⟩,
       ⟨some 107, .mov (.t 14), none⟩,
       ⟨some 108, .iadr 2 (.t 106) (.t 107), none⟩,
       ⟨some 109, .fadr 0 (.t 108), none⟩,
       ⟨some 110, .load none (.t 109), none⟩,
       ⟨some 111, .max2 (.t 105) (.t 110), none⟩,
       ⟨some 15, .mov (.t 111), none⟩] [0, 1, 2, 3, 4, 5, 6, 7] [])
     .skip [0, 1, 2, 9, 10, 14, 15, 38, 39, 40]))
    (.region [⟨some 112, .mov (.t 9), none⟩,
      ⟨some 113, .mov (.t 14), none⟩,
      ⟨some 114, .mov (.t 15), none⟩,
      ⟨some 115, .mov (.t 2), none⟩,
      ⟨some 116, .mov (.t 14), none⟩,
      ⟨some 117, .call 30 [(.t 115), (.t 116)], none⟩,
      ⟨some 118, .bin .add (.t 114) (.t 117), none⟩,
      ⟨some 119, .iadr 1 (.t 112) (.t 113), none⟩,
      ⟨none, .store 1 (.t 119) (.t 118), none⟩] [0, 1, 2, 3, 4, 5, 6, 7, 8] []))))))
   (.region [⟨some 120, .bin .add (.t 40) (.k (.v (.one (.int .i64 1)))), none⟩,
     ⟨some 40, .mov (.t 120), none⟩] [0, 1] [])))))))
 (.seq
 (.region [⟨some 121, .mov (.t 9), none⟩,
   ⟨some 122, .mov (.t 10), none⟩,
   ⟨some 6, .mov (.t 121), none⟩,
   ⟨some 7, .mov (.t 122), none⟩,
   ⟨some 8, .mov (.k (.v (.one (.int .i64 0)))), none⟩] [0, 1, 2, 3, 4] [])
 .ret)))))))⟩
theorem t16 : tell Try.prog Try.f16 [([0, 1, 2, 6, 7, 8], [], []), ([0, 1, 2, 9, 10, 38, 39, 40], [], []), ([0, 1, 2, 9, 10, 38, 39, 40], [], []), ([0, 1, 2, 9, 10, 14, 15, 16, 38, 39, 40, 44, 45, 46], [], []), ([0, 1, 2, 9, 10, 14, 15, 16, 38, 39, 40, 44, 45, 46], [], []), ([0, 1, 2, 9, 10, 14, 15, 16, 17, 18, 38, 39, 40, 44, 45, 46], [], []), ([0, 1, 2, 3, 4, 5, 6, 7, 8], [], [0, 0, 2, 7, 15, 0, 32, 127, 255]), ([0, 1, 2, 3, 4, 5, 6, 7, 8, 9, 10, 11, 12, 13, 14, 15, 16, 17, 18], [], [0, 0, 0, 4, 12, 28, 60, 60, 60, 444, 956, 1980, 60, 4156, 16316, 32764, 65532, 131071, 262143]), ([0, 1, 2, 9, 10, 14, 15, 16, 38, 39, 40, 44, 45, 46], [], []), ([0, 1, 2, 9, 10, 14, 15, 38, 39, 40], [], [])] = some a16 := by kernel_rfl
theorem ok16 : FuncOk Try.prog 16 a16 := tell_ok Try.func16 t16

/-- railplan/delay.Lateness -/
def a17 : AFunc := ⟨2, [4, 5], none,
 (.seq
 (.region [⟨some 4, .mov (.k (.v (.one .nils))), none⟩,
   ⟨some 5, .mov (.k (.v (.one (.int .i64 0)))), none⟩] [0, 1] [])
 (.seq
 (.seq
 (.region [⟨some 9, .mov (.t 1), none⟩,
   ⟨some 10, .len (.t 9), none⟩,
   ⟨some 11, .mov (.t 0), none⟩,
   ⟨some 12, .len (.t 11), none⟩,
   ⟨some 13, .bin .neq (.t 10) (.t 12), none⟩] [0, 1, 2, 3, 4] [])
 (.cond (.t 13)
  (.seq
  (.region [⟨some 4, .mov (.k (.v (.one .nils))), none⟩,
    ⟨some 5, .mov (.k (.v (.one (.int .i64 1)))), none⟩] [0, 1] [])
  .ret)
  .skip [0, 1, 4, 5]))
 (.seq
 (.region [⟨some 14, .mov (.t 0), none⟩,
   ⟨some 15, .len (.t 14), none⟩,
   ⟨some 16, .mks 3 1 8 [(.int .i64 0)] (.t 15) (.t 15), none⟩,
   ⟨some 6, .mov (.t 16), none⟩] [0, 1, 2, 3] [])
 (.seq
 (.seq
 (.region [⟨some 17, .mov (.t 1), none⟩,
   ⟨some 18, .len (.t 17), none⟩,
   ⟨some 19, .mov (.k (.v (.one (.int .i64 0)))), none⟩] [0, 1, 2] [])
 (.block 0
  (.loop [0, 6, 17, 18, 19]
   (.seq
   (.region [⟨some 20, .bin .lss (.t 19) (.t 18), none⟩] [0] [])
   (.seq
   (.cond (.t 20)
    .skip
    (.exit 0) [0, 6, 17, 18, 19])
   (.seq
   (.block 1
    (.seq
    (.region [⟨some 21, .mov (.t 19), none⟩,
      ⟨some 22, .iadr 1 (.t 17) (.t 19), none⟩,
      ⟨some 23, .load none (.t 22), none⟩,
      ⟨some 7, .mov (.t 21), none⟩,
      ⟨some 8, .mov (.t 23), none⟩] [0, 1, 2, 3, 4] [])
    (.region [⟨some 24, .mov (.t 6), none⟩,
      ⟨some 25, .mov (.t 7), none⟩,
      ⟨some 26, .mov (.t 8), none⟩,
      ⟨some 27, .mov (.t 0), none⟩,
      ⟨some 28, .mov (.t 7), none⟩,
      ⟨some 29, .iadr 2 (.t 27) (.t 28), none⟩,
      ⟨some 30, .fadr 0 (.t 29), none⟩,
      ⟨some 31, .load none (.t 30), none⟩,
      ⟨some 32, .bin .sub (.t 26) (.t 31), none⟩,
      ⟨some 33, .iadr 1 (.t 24) (.t 25), none⟩,
      ⟨none, .store 1 (.t 33) (.t 32), none⟩] [0, 1, 2, 3, 4, 5, 6, 7, 8, 9, 10] [])))
   (.region [⟨some 34, .bin .add (.t 19) (.k (.v (.one (.int .i64 1)))), none⟩,
     ⟨some 19, .mov (.t 34), none⟩] [0, 1] [])))))))
 (.seq
 (.region [⟨some 35, .mov (.t 6), none⟩,
   ⟨some 4, .mov (.t 35), none⟩,
   ⟨some 5, .mov (.k (.v (.one (.int .i64 0)))), none⟩] [0, 1, 2] [])
 .ret)))))⟩
theorem t17 : tell Try.prog Try.f17 [([0, 1, 4, 5], [], []), ([0, 6, 17, 18, 19], [], []), ([0, 6, 17, 18, 19], [], [])] = some a17 := by kernel_rfl
theorem ok17 : FuncOk Try.prog 17 a17 := tell_ok Try.func17 t17

/-- railplan/railplanref30.Lateness -/
def a18 : AFunc := ⟨2, [4, 5], none,
 (.seq
 (.region [⟨some 4, .mov (.k (.v (.one .nils))), none⟩,
   ⟨some 5, .mov (.k (.v (.one (.int .i64 0)))), none⟩] [0, 1] [])
 (.seq
 (.seq
 (.region [⟨some 8, .mov (.t 1), none⟩,
   ⟨some 9, .len (.t 8), none⟩,
   ⟨some 10, .mov (.t 0), none⟩,
   ⟨some 11, .len (.t 10), none⟩,
   ⟨some 12, .bin .neq (.t 9) (.t 11), none⟩] [0, 1, 2, 3, 4] [])
 (.cond (.t 12)
  (.seq
  (.region [⟨some 4, .mov (.k (.v (.one .nils))), none⟩,
    ⟨some 5, .mov (.k (.v (.one (.int .i64 1)))), none⟩] [0, 1] [])
  .ret)
  .skip [0, 1, 4, 5]))
 (.seq
 (.region [⟨some 6, .mov (.k (.v (.one .nils))), none⟩] [0] [])
 (.seq
 (.seq
 (.region [⟨some 13, .mov (.t 0), none⟩,
   ⟨some 14, .len (.t 13), none⟩,
   ⟨some 15, .mov (.k (.v (.one (.int .i64 0)))), none⟩] [0, 1, 2] [])
 (.block 0
  (.loop [0, 1, 6, 14, 15]
   (.seq
   (.region [⟨some 16, .bin .lss (.t 15) (.t 14), none⟩] [0] [])
   (.seq
   (.cond (.t 16)
    .skip
    (.exit 0) [0, 1, 6, 14, 15])
   (.seq
   (.block 1
    (.seq
    (.region [⟨some 17, .mov (.t 15), none⟩,
      ⟨some 7, .mov (.t 17), none⟩] [0, 1] [])
    (.region [⟨some 18, .mov (.t 6), none⟩,
      ⟨some 19, .mov (.t 1), none⟩,
      ⟨some 20, .mov (.t 7), none⟩,
      ⟨some 21, .iadr 1 (.t 19) (.t 20), none⟩,
      ⟨some 22, .load none (.t 21), none⟩,
      ⟨some 23, .mov (.t 0), none⟩,
      ⟨some 24, .mov (.t 7), none⟩,
      ⟨some 25, .iadr 2 (.t 23) (.t 24), none⟩,
      ⟨some 26, .fadr 0 (.t 25), none⟩,
      ⟨some 27, .load none (.t 26), none⟩,
      ⟨some 28, .bin .sub (.t 22) (.t 27), none⟩,
      ⟨some 29, .bsl 3 1 1 [(.int .i64 0)] [(0, 1, (.t 28))], none⟩,
      ⟨some 30, .app 3 1 8 (.t 18) (.t 29), none⟩,
      ⟨some 6, .mov (.t 30), none⟩] [0, 1, 2, 3, 4, 5, 6, 7, 8, 9, 10, 11, 12, 13] [])))
   (.region [⟨some 31, .bin .add (.t 15) (.k (.v (.one (.int .i64 1)))), none⟩,
     ⟨some 15, .mov (.t 31), none⟩] [0, 1] [])))))))
 (.seq
 (.region [⟨some 32, .mov (.t 6), none⟩,
   ⟨some 4, .mov (.t 32), none⟩,
   ⟨some 5, .mov (.k (.v (.one (.int .i64 0)))), none⟩] [0, 1, 2] [])
 .ret)))))⟩
theorem t18 : tell Try.prog Try.f18 [([0, 1, 4, 5], [], []), ([0, 1, 6, 14, 15], [], []), ([0, 1, 6, 14, 15], [], []), ([0, 1, 2, 3, 4, 5, 6, 7, 8, 9, 10, 11, 12, 13], [], [0, 0, 0, 6, 14, 0, 0, 96, 224, 480, 1022, 2046, 4095, 8191])] = some a18 := by kernel_rfl
theorem ok18 : FuncOk Try.prog 18 a18 := tell_ok Try.func18 t18

/-- railplan/railplankeep.Same[int] -/
def a19 : AFunc := ⟨2, [4], none,
 (.seq
 (.region [⟨some 4, .mov (.k (.v (.one (.bool false)))), none⟩] [0] [])
 (.seq
 (.seq
 (.region [⟨some 6, .mov (.t 0), none⟩,
   ⟨some 7, .len (.t 6), none⟩,
   ⟨some 8, .mov (.t 1), none⟩,
   ⟨some 9, .len (.t 8), none⟩,
   ⟨some 10, .bin .neq (.t 7) (.t 9), none⟩] [0, 1, 2, 3, 4] [])
 (.cond (.t 10)
  (.seq
  (.region [⟨some 4, .mov (.k (.v (.one (.bool false)))), none⟩] [0] [])
  .ret)
  .skip [0, 1, 4]))
 (.seq
 (.seq
 (.region [⟨some 11, .mov (.t 0), none⟩,
   ⟨some 12, .len (.t 11), none⟩,
   ⟨some 13, .mov (.k (.v (.one (.int .i64 0)))), none⟩] [0, 1, 2] [])
 (.block 0
  (.loop [0, 1, 12, 13]
   (.seq
   (.region [⟨some 14, .bin .lss (.t 13) (.t 12), none⟩] [0] [])
   (.seq
   (.cond (.t 14)
    .skip
    (.exit 0) [0, 1, 12, 13])
   (.seq
   (.block 1
    (.seq
    (.region [⟨some 15, .mov (.t 13), none⟩,
      ⟨some 5, .mov (.t 15), none⟩] [0, 1] [])
    (.seq
    (.region [⟨some 16, .mov (.t 0), none⟩,
      ⟨some 17, .mov (.t 5), none⟩,
      ⟨some 18, .iadr 1 (.t 16) (.t 17), none⟩,
      ⟨some 19, .load none (.t 18), none⟩,
      ⟨some 20, .mov (.t 1), none⟩,
      ⟨some 21, .mov (.t 5), none⟩,
      ⟨some 22, .iadr 1 (.t 20) (.t 21), none⟩,
      ⟨some 23, .load none (.t 22), none⟩,
      ⟨some 24, .bin .neq (.t 19) (.t 23), none⟩] [0, 1, 2, 3, 4, 5, 6, 7, 8] [])
    (.cond (.t 24)
     (.seq
     (.region [⟨some 4, .mov (.k (.v (.one (.bool false)))), none⟩] [0] [])
     .ret)
     .skip [0, 1, 4, 12, 13]))))
   (.region [⟨some 25, .bin .add (.t 13) (.k (.v (.one (.int .i64 1)))), none⟩,
     ⟨some 13, .mov (.t 25), none⟩] [0, 1] [])))))))
 (.seq
 (.region [⟨some 4, .mov (.k (.v (.one (.bool true)))), none⟩] [0] [])
 .ret))))⟩
theorem t19 : tell Try.prog Try.f19 [([0, 1, 4], [], []), ([0, 1, 12, 13], [], []), ([0, 1, 12, 13], [], []), ([0, 1, 2, 3, 4, 5, 6, 7, 8], [], [0, 0, 3, 7, 0, 0, 48, 112, 255]), ([0, 1, 4, 12, 13], [], [])] = some a19 := by kernel_rfl
theorem ok19 : FuncOk Try.prog 19 a19 := tell_ok Try.func19 t19

/-- railplan/delay.Cause -/
def a20 : AFunc := ⟨4, [8, 9], none,
 (.seq
 (.region [⟨some 8, .mov (.k (.v (.one .nils))), none⟩,
   ⟨some 9, .mov (.k (.v (.one (.int .i64 0)))), none⟩] [0, 1] [])
 (.seq
 (.seq
 (.region [⟨some 15, .mov (.t 0), none⟩,
   ⟨some 16, .mov (.t 1), none⟩,
   ⟨some 17, .mov (.t 2), none⟩,
   ⟨some 18, .call 22 [(.t 15), (.t 16), (.t 17)], none⟩,
   ⟨some 19, .not (.t 18), none⟩] [0, 1, 2, 3, 4] [])
 (.cond (.t 19)
  (.seq
  (.region [⟨some 8, .mov (.k (.v (.one .nils))), none⟩,
    ⟨some 9, .mov (.k (.v (.one (.int .i64 1)))), none⟩] [0, 1] [])
  .ret)
  .skip [0, 1, 2, 3, 8, 9]))
 (.seq
 (.seq
 (.region [⟨some 20, .mov (.t 3), none⟩,
   ⟨some 21, .bin .lss (.t 20) (.k (.v (.one (.int .i64 0)))), none⟩,
   ⟨some 22, .mov (.t 21), none⟩,
   ⟨some 23, .mov (.t 3), some (22, false)⟩,
   ⟨some 24, .mov (.t 0), some (22, false)⟩,
   ⟨some 25, .len (.t 24), some (22, false)⟩,
   ⟨some 26, .bin .geq (.t 23) (.t 25), some (22, false)⟩,
   ⟨some 27, .pick (.t 22) (.k (.v (.one (.bool true)))) (.t 26), none⟩] [0, 1, 2, 3, 4, 5, 6, 7] [])
 (.cond (.t 27)
  (.seq
  (.region [⟨some 8, .mov (.k (.v (.one .nils))), none⟩,
    ⟨some 9, .mov (.k (.v (.one (.int .i64 4)))), none⟩] [0, 1] [])
  .ret)
  .skip [0, 1, 2, 3, 8, 9]))
 (.seq
 (.region [⟨some 28, .mov (.t 0), none⟩,
   ⟨some 29, .mov (.t 1), none⟩,
   ⟨some 30, .mov (.t 2), none⟩,
   ⟨some 31, .call 28 [(.t 28), (.t 29), (.t 30)], none⟩,
   ⟨some 10, .new 58 [.nils, .nils, .nils], none⟩,
   ⟨none, .store 3 (.t 10) (.t 31), none⟩] [0, 1, 2, 3, 4, 5] [])
 (.seq
 (.region [⟨some 11, .mov (.k (.v (.one .nils))), none⟩] [0] [])
 (.seq
 (.seq
 (.region [⟨some 12, .mov (.k (.v (.one (.bool true)))), none⟩] [0] [])
 (.block 0
  (.loop [0, 1, 3, 10, 11, 12]
   (.seq
   (.seq
   (.region [⟨some 32, .mov (.t 12), none⟩] [0] [])
   (.cond (.t 32)
    .skip
    (.exit 0) [0, 1, 3, 10, 11]))
   (.block 1
    (.seq
    (.region [⟨some 12, .mov (.k (.v (.one (.bool false)))), none⟩] [0] [])
    (.seq
    (.seq
    (.region [⟨some 33, .mov (.t 0), none⟩,
      ⟨some 34, .mov (.t 3), none⟩,
      ⟨some 35, .iadr 2 (.t 33) (.t 34), none⟩,
      ⟨some 36, .fadr 1 (.t 35), none⟩,
      ⟨some 37, .load none (.t 36), none⟩,
      ⟨some 38, .mov (.t 37), none⟩,
      ⟨some 39, .fadr 0 (.t 10), some (38, true)⟩,
      ⟨some 40, .load none (.t 39), some (38, true)⟩,
      ⟨some 41, .mov (.t 3), some (38, true)⟩,
      ⟨some 42, .iadr 1 (.t 40) (.t 41), some (38, true)⟩,
      ⟨some 43, .load none (.t 42), some (38, true)⟩,
      ⟨some 44, .mov (.t 0), some (38, true)⟩,
      ⟨some 45, .mov (.t 3), some (38, true)⟩,
      ⟨some 46, .iadr 2 (.t 44) (.t 45), some (38, true)⟩,
      ⟨some 47, .fadr 0 (.t 46), some (38, true)⟩,
      ⟨some 48, .load none (.t 47), some (38, true)⟩,
      ⟨some 49, .bin .leq (.t 43) (.t 48), some (38, true)⟩,
      ⟨some 50, .pick (.t 38) (.t 49) (.k (.v (.one (.bool false)))), none⟩] [0, 1, 2, 3, 4, 5, 6, 7, 8, 9, 10, 11, 12, 13, 14, 15, 16, 17] [])
    (.cond (.t 50)
     (.exit 0)
     .skip [0, 1, 3, 10, 11, 12]))
    (.seq
    (.region [⟨some 51, .mov (.t 1), none⟩,
      ⟨some 52, .len (.t 51), none⟩,
      ⟨some 53, .mov (.k (.v (.one (.int .i64 0)))), none⟩] [0, 1, 2] [])
    (.block 2
     (.loop [0, 1, 3, 10, 11, 12, 51, 52, 53]
      (.seq
      (.region [⟨some 54, .bin .lss (.t 53) (.t 52), none⟩] [0] [])
      (.seq
      (.cond (.t 54)
       .skip
       (.exit 2) [0, 1, 3, 10, 11, 12, 51, 52, 53])
      (.seq
      (.block 3
       (.seq
       (.region [⟨some 55, .mov (.t 53), none⟩,
         ⟨some 56, .iadr 4 (.t 51) (.t 53), none⟩,
         ⟨some 57, .load (some 4) (.t 56), none⟩,
         ⟨some 14, .new 35 [(.int .i64 0), (.int .i64 0), (.int .i64 0), (.int .i64 0)], none⟩,
         ⟨some 13, .mov (.t 55), none⟩,
         ⟨none, .store 4 (.t 14) (.t 57), none⟩] [0, 1, 2, 3, 4, 5] [])
       (.seq
       (.region [⟨some 58, .fadr 1 (.t 14), none⟩,
         ⟨some 59, .load none (.t 58), none⟩,
         ⟨some 60, .mov (.t 3), none⟩,
         ⟨some 61, .bin .eql (.t 59) (.t 60), none⟩,
         ⟨some 62, .mov (.t 61), none⟩,
         ⟨some 63, .fadr 2 (.t 10), some (62, true)⟩,
         ⟨some 64, .load none (.t 63), some (62, true)⟩,
         ⟨some 65, .mov (.t 13), some (62, true)⟩,
         ⟨some 66, .iadr 1 (.t 64) (.t 65), some (62, true)⟩,
         ⟨some 67, .load none (.t 66), some (62, true)⟩,
         ⟨some 68, .pick (.t 62) (.t 67) (.k (.v (.one (.bool false)))), none⟩,
         ⟨some 69, .mov (.t 68), none⟩,
         ⟨some 70, .fadr 1 (.t 10), some (69, true)⟩,
         ⟨some 71, .load none (.t 70), some (69, true)⟩,
         ⟨some 72, .fadr 0 (.t 14), some (69, true)⟩,
         ⟨some 73, .load none (.t 72), some (69, true)⟩,
         ⟨some 74, .iadr 1 (.t 71) (.t 73), some (69, true)⟩,
         ⟨some 75, .load none (.t 74), some (69, true)⟩,
         ⟨some 76, .fadr 2 (.t 14), some (69, true)⟩,
         ⟨some 77, .load none (.t 76), some (69, true)⟩,
         ⟨some 78, .bin .add (.t 75) (.t 77), some (69, true)⟩,
         ⟨some 79, .fadr 0 (.t 10), some (69, true)⟩,
         ⟨some 80, .load none (.t 79), some (69, true)⟩,
         ⟨some 81, .mov (.t 3), some (69, true)⟩,
         ⟨some 82, .iadr 1 (.t 80) (.t 81), some (69, true)⟩,
         ⟨some 83, .load none (.t 82), some (69, true)⟩,
         ⟨some 84, .bin .eql (.t 78) (.t 83), some (69, true)⟩,
         ⟨some 85, .pick (.t 69) (.t 84) (.k (.v (.one (.bool false)))), none⟩] [0, 1, 2, 3, 4, 5, 6, 7, 8, 9, 10, 11, 12, 13, 14, 15, 16, 17, 18, 19, 20, 21, 22, 23, 24, 25, 26, 27] [])
       (.cond (.t 85)
        (.seq
        (.region [⟨some 86, .mov (.t 11), none⟩,
          ⟨some 87, .mov (.t 13), none⟩,
          ⟨some 88, .bsl 3 1 1 [(.int .i64 0)] [(0, 1, (.t 87))], none⟩,
          ⟨some 89, .app 3 1 8 (.t 86) (.t 88), none⟩,
          ⟨some 11, .mov (.t 89), none⟩] [0, 1, 2, 3, 4] [])
        (.seq
        (.region [⟨some 90, .fadr 0 (.t 14), none⟩,
          ⟨some 91, .load none (.t 90), none⟩,
          ⟨some 3, .mov (.t 91), none⟩,
          ⟨some 12, .mov (.k (.v (.one (.bool true)))), none⟩] [0, 1, 2, 3] [])
        (.exit 2)))
        .skip [0, 1, 3, 10, 11, 12, 51, 52, 53]))))
      (.region [⟨some 92, .bin .add (.t 53) (.k (.v (.one (.int .i64 1)))), none⟩,
        ⟨some 53, .mov (.t 92), none⟩] [0, 1] []))))))))))))))
 (.seq
 (.region [⟨some 93, .mov (.t 11), none⟩,
   ⟨some 8, .mov (.t 93), none⟩,
   ⟨some 9, .mov (.k (.v (.one (.int .i64 0)))), none⟩] [0, 1, 2] [])
 .ret)))))))⟩
theorem t20 : tell Try.prog Try.f20 [([0, 1, 2, 3, 8, 9], [], []), ([0, 1, 2, 3, 8, 9], [], []), ([0, 1, 3, 10, 11, 12], [], []), ([0, 1, 3, 10, 11], [], []), ([0, 1, 2, 3, 4, 5, 6, 7, 8, 9, 10, 11, 12, 13, 14, 15, 16, 17], [], [0, 0, 3, 7, 15, 31, 63, 127, 63, 511, 1023, 63, 63, 6207, 14399, 30783, 65535, 131071]), ([0, 1, 3, 10, 11, 12], [], []), ([0, 1, 3, 10, 11, 12, 51, 52, 53], [], []), ([0, 1, 3, 10, 11, 12, 51, 52, 53], [], []), ([0, 1, 2, 3, 4, 5, 6, 7, 8, 9, 10, 11, 12, 13, 14, 15, 16, 17, 18, 19, 20, 21, 22, 23, 24, 25, 26, 27], [], [0, 1, 0, 7, 15, 31, 63, 31, 255, 511, 1023, 2047, 4095, 8191, 4095, 20479, 65535, 131071, 4095, 266239, 1048575, 4095, 2101247, 4095, 14684159, 31461375, 67108863, 134217727]), ([0, 1, 3, 10, 11, 12, 51, 52, 53], [], [])] = some a20 := by kernel_rfl
theorem ok20 : FuncOk Try.prog 20 a20 := tell_ok Try.func20 t20

end Go.Proofs.Ythoicdnlcnppgaa.Fn
