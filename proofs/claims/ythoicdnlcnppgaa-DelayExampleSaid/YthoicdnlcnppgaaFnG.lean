/- Functions of the program, as the abstract machine's, and that they are. Conditions: none. -/
import Derived.Test.YthoicdnlcnppgaaAmCo
import Derived.Test.YthoicdnlcnppgaaProg
set_option linter.unusedVariables false
namespace Go.Proofs.Ythoicdnlcnppgaa.Fn
open Go Go.Am
set_option maxRecDepth 100000
/-- railplan/delay.sorted -/
def a32 : AFunc := ⟨2, [4, 5], none,
 (.seq
 (.region [⟨some 4, .mov (.k (.v (.one .nils))), none⟩,
   ⟨some 5, .mov (.k (.v (.one (.bool false)))), none⟩] [0, 1] [])
 (.seq
 (.region [⟨some 15, .mov (.t 0), none⟩,
   ⟨some 16, .mks 3 1 8 [(.int .i64 0)] (.t 15) (.t 15), none⟩,
   ⟨some 6, .mov (.t 16), none⟩] [0, 1, 2] [])
 (.seq
 (.seq
 (.region [⟨some 17, .mov (.t 1), none⟩,
   ⟨some 18, .len (.t 17), none⟩,
   ⟨some 19, .mov (.k (.v (.one (.int .i64 0)))), none⟩] [0, 1, 2] [])
 (.block 0
  (.loop [0, 1, 6, 17, 18, 19]
   (.seq
   (.region [⟨some 20, .bin .lss (.t 19) (.t 18), none⟩] [0] [])
   (.seq
   (.cond (.t 20)
    .skip
    (.exit 0) [0, 1, 6, 17, 18, 19])
   (.seq
   (.block 1
    (.seq
    (.region [⟨some 21, .iadr 4 (.t 17) (.t 19), none⟩,
      ⟨some 22, .load (some 4) (.t 21), none⟩,
      ⟨some 8, .new 35 [(.int .i64 0), (.int .i64 0), (.int .i64 0), (.int .i64 0)], none⟩,
      ⟨none, .store 4 (.t 8) (.t 22), none⟩] [0, 1, 2, 3] [])
    (.region [⟨some 23, .mov (.t 6), none⟩,
      ⟨some 24, .fadr 1 (.t 8), none⟩,
      ⟨some 25, .load none (.t 24), none⟩,
      ⟨some 26, .iadr 1 (.t 23) (.t 25), none⟩,
      ⟨some 27, .load none (.t 26), none⟩,
      ⟨some 28, .bin .add (.t 27) (.k (.v (.one (.int .i64 1)))), none⟩,
      ⟨some 29, .iadr 1 (.t 23) (.t 25), none⟩,
      ⟨none, .store 1 (.t 29) (.t 28), none⟩] [0, 1, 2, 3, 4, 5, 6, 7] [])))
   (.region [⟨some 30, .bin .add (.t 19) (.k (.v (.one (.int .i64 1)))), none⟩,
     ⟨some 19, .mov (.t 30), none⟩] [0, 1] [])))))))
 (.seq
 (.region [⟨some 9, .mov (.k (.v (.one .nils))), none⟩] [0] [])
 (.seq
 (.seq
 (.region [⟨some 31, .mov (.t 6), none⟩,
   ⟨some 32, .len (.t 31), none⟩,
   ⟨some 33, .mov (.k (.v (.one (.int .i64 0)))), none⟩] [0, 1, 2] [])
 (.block 2
  (.loop [0, 1, 6, 9, 31, 32, 33]
   (.seq
   (.region [⟨some 34, .bin .lss (.t 33) (.t 32), none⟩] [0] [])
   (.seq
   (.cond (.t 34)
    .skip
    (.exit 2) [0, 1, 6, 9, 31, 32, 33])
   (.seq
   (.block 3
    (.seq
    (.region [⟨some 35, .mov (.t 33), none⟩,
      ⟨some 36, .iadr 1 (.t 31) (.t 33), none⟩,
      ⟨some 37, .load none (.t 36), none⟩,
      ⟨some 10, .mov (.t 35), none⟩,
      ⟨some 11, .mov (.t 37), none⟩] [0, 1, 2, 3, 4] [])
    (.seq
    (.region [⟨some 38, .mov (.t 11), none⟩,
      ⟨some 39, .bin .eql (.t 38) (.k (.v (.one (.int .i64 0)))), none⟩] [0, 1] [])
    (.cond (.t 39)
     (.region [⟨some 40, .mov (.t 9), none⟩,
       ⟨some 41, .mov (.t 10), none⟩,
       ⟨some 42, .bsl 3 1 1 [(.int .i64 0)] [(0, 1, (.t 41))], none⟩,
       ⟨some 43, .app 3 1 8 (.t 40) (.t 42), none⟩,
       ⟨some 9, .mov (.t 43), none⟩] [0, 1, 2, 3, 4] [])
     .skip [0, 1, 6, 9, 31, 32, 33]))))
   (.region [⟨some 44, .bin .add (.t 33) (.k (.v (.one (.int .i64 1)))), none⟩,
     ⟨some 33, .mov (.t 44), none⟩] [0, 1] [])))))))
 (.seq
 (.seq
 (.region [⟨some 12, .mov (.k (.v (.one (.int .i64 0)))), none⟩] [0] [])
 (.block 4
  (.loop [0, 1, 6, 9, 12]
   (.seq
   (.seq
   (.region [⟨some 45, .mov (.t 12), none⟩,
     ⟨some 46, .mov (.t 9), none⟩,
     ⟨some 47, .len (.t 46), none⟩,
     ⟨some 48, .bin .lss (.t 45) (.t 47), none⟩] [0, 1, 2, 3] [])
   (.cond (.t 48)
    .skip
    (.exit 4) [0, 1, 6, 9, 12]))
   (.seq
   (.block 5
    (.seq
    (.region [⟨some 51, .mov (.t 1), none⟩,
      ⟨some 52, .len (.t 51), none⟩,
      ⟨some 53, .mov (.k (.v (.one (.int .i64 0)))), none⟩] [0, 1, 2] [])
    (.block 6
     (.loop [0, 1, 6, 9, 12, 51, 52, 53]
      (.seq
      (.region [⟨some 54, .bin .lss (.t 53) (.t 52), none⟩] [0] [])
      (.seq
      (.cond (.t 54)
       .skip
       (.exit 6) [0, 1, 6, 9, 12, 51, 52, 53])
      (.seq
      (.block 7
       (.seq
       (.region [⟨some 55, .iadr 4 (.t 51) (.t 53), none⟩,
         ⟨some 56, .load (some 4) (.t 55), none⟩,
         ⟨some 14, .new 35 [(.int .i64 0), (.int .i64 0), (.int .i64 0), (.int .i64 0)], none⟩,
         ⟨none, .store 4 (.t 14) (.t 56), none⟩] [0, 1, 2, 3] [])
       (.seq
       (.seq
       (.region [⟨some 57, .fadr 0 (.t 14), none⟩,
         ⟨some 58, .load none (.t 57), none⟩,
         ⟨some 59, .mov (.t 9), none⟩,
         ⟨some 60, .mov (.t 12), none⟩,
         ⟨some 61, .iadr 1 (.t 59) (.t 60), none⟩,
         ⟨some 62, .load none (.t 61), none⟩,
         ⟨some 63, .bin .neq (.t 58) (.t 62), none⟩] [0, 1, 2, 3, 4, 5, 6] [])
       (.cond (.t 63)
        (.exit 7)
        .skip [0, 1, 6, 9, 12, 14, 51, 52, 53]))
       (.seq
       (.region [⟨some 64, .mov (.t 6), none⟩,
         ⟨some 65, .fadr 1 (.t 14), none⟩,
         ⟨some 66, .load none (.t 65), none⟩,
         ⟨some 67, .iadr 1 (.t 64) (.t 66), none⟩,
         ⟨some 68, .load none (.t 67), none⟩,
         ⟨some 69, .bin .sub (.t 68) (.k (.v (.one (.int .i64 1)))), none⟩,
         ⟨some 70, .iadr 1 (.t 64) (.t 66), none⟩,
         ⟨none, .store 1 (.t 70) (.t 69), none⟩] [0, 1, 2, 3, 4, 5, 6, 7] [])
       (.seq
       (.region [⟨some 71, .mov (.t 6), none⟩,
         ⟨some 72, .fadr 1 (.t 14), none⟩,
         ⟨some 73, .load none (.t 72), none⟩,
         ⟨some 74, .iadr 1 (.t 71) (.t 73), none⟩,
         ⟨some 75, .load none (.t 74), none⟩,
         ⟨some 76, .bin .eql (.t 75) (.k (.v (.one (.int .i64 0)))), none⟩] [0, 1, 2, 3, 4, 5] [])
       (.cond (.t 76)
        (.region [⟨some 77, .mov (.t 9), none⟩,
          ⟨some 78, .fadr 1 (.t 14), none⟩,
          ⟨some 79, .load none (.t 78), none⟩,
          ⟨some 80, .bsl 3 1 1 [(.int .i64 0)] [(0, 1, (.t 79))], none⟩,
          ⟨some 81, .app 3 1 8 (.t 77) (.t 80), none⟩,
          ⟨some 9, .mov (.t 81), none⟩] [0, 1, 2, 3, 4, 5] [])
        .skip [0, 1, 6, 9, 12, 51, 52, 53]))))))
      (.region [⟨some 82, .bin .add (.t 53) (.k (.v (.one (.int .i64 1)))), none⟩,
        ⟨some 53, .mov (.t 82), none⟩] [0, 1] []))))))))
   (.region [⟨some 49, .mov (.t 12), none⟩,
     ⟨some 50, .bin .add (.t 49) (.k (.v (.one (.int .i64 1)))), none⟩,
     ⟨some 12, .mov (.t 50), none⟩] [0, 1, 2] []))))))
 (.seq
 (.region [⟨some 83, .mov (.t 9), none⟩,
   ⟨some 84, .mov (.t 9), none⟩,
   ⟨some 85, .len (.t 84), none⟩,
   ⟨some 86, .mov (.t 0), none⟩,
   ⟨some 87, .bin .eql (.t 85) (.t 86), none⟩,
   ⟨some 4, .mov (.t 83), none⟩,
   ⟨some 5, .mov (.t 87), none⟩] [0, 1, 2, 3, 4, 5, 6] [])
 .ret)))))))⟩
theorem t32 : tell Try.prog Try.f32 [([0, 1, 6, 17, 18, 19], [], []), ([0, 1, 6, 17, 18, 19], [], []), ([0, 1, 6, 9, 31, 32, 33], [], []), ([0, 1, 6, 9, 31, 32, 33], [], []), ([0, 1, 6, 9, 31, 32, 33], [], []), ([0, 1, 6, 9, 12], [], []), ([0, 1, 6, 9, 12], [], []), ([0, 1, 6, 9, 12, 51, 52, 53], [], []), ([0, 1, 6, 9, 12, 51, 52, 53], [], []), ([0, 1, 2, 3, 4, 5, 6], [], [0, 1, 0, 0, 12, 28, 63]), ([0, 1, 6, 9, 12, 14, 51, 52, 53], [], []), ([0, 1, 6, 9, 12, 51, 52, 53], [], [])] = some a32 := by kernel_rfl
theorem ok32 : FuncOk Try.prog 32 a32 := tell_ok Try.func32 t32

end Go.Proofs.Ythoicdnlcnppgaa.Fn
