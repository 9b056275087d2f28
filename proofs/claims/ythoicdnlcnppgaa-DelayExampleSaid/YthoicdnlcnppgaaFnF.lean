/- Functions of the program, as the abstract machine's, and that they are. Conditions: none. -/
import Derived.Test.YthoicdnlcnppgaaAmCo
import Derived.Test.YthoicdnlcnppgaaProg
set_option linter.unusedVariables false
namespace Go.Proofs.Ythoicdnlcnppgaa.Fn
open Go Go.Am
set_option maxRecDepth 100000
/-- railplan/railplankeep.Same[bool] -/
def a24 : AFunc := ⟨2, [4], none,
 (.seq
 (.region [⟨some 4, .mov (.k (.v (.one (.bool false)))), none⟩] [0] [])
 (.seq
 (.seq
 (.region [⟨some 6, .mov (.t 0), none⟩,
   ⟨some 7, .len (.t 6), none⟩,
   ⟨some 8, .mov (.t 1), none⟩,
   ⟨some 9, .len (.t 8), none⟩,
   ⟨some 10, .bin .neq (.t 7) (.t 9), none⟩] [0, 1, 2, 3, 4] [])
 (.cond (.t 10)
  (.seq
  (.region [⟨some 4, .mov (.k (.v (.one (.bool false)))), none⟩] [0] [])
  .ret)
  .skip [0, 1, 4]))
 (.seq
 (.seq
 (.region [⟨some 11, .mov (.t 0), none⟩,
   ⟨some 12, .len (.t 11), none⟩,
   ⟨some 13, .mov (.k (.v (.one (.int .i64 0)))), none⟩] [0, 1, 2] [])
 (.block 0
  (.loop [0, 1, 12, 13]
   (.seq
   (.region [⟨some 14, .bin .lss (.t 13) (.t 12), none⟩] [0] [])
   (.seq
   (.cond (.t 14)
    .skip
    (.exit 0) [0, 1, 12, 13])
   (.seq
   (.block 1
    (.seq
    (.region [⟨some 15, .mov (.t 13), none⟩,
      ⟨some 5, .mov (.t 15), none⟩] [0, 1] [])
    (.seq
    (.region [⟨some 16, .mov (.t 0), none⟩,
      ⟨some 17, .mov (.t 5), none⟩,
      ⟨some 18, .iadr 1 (.t 16) (.t 17), none⟩,
      ⟨some 19, .load none (.t 18), none⟩,
      ⟨some 20, .mov (.t 1), none⟩,
      ⟨some 21, .mov (.t 5), none⟩,
      ⟨some 22, .iadr 1 (.t 20) (.t 21), none⟩,
      ⟨some 23, .load none (.t 22), none⟩,
      ⟨some 24, .eqb true (.t 19) (.t 23), none⟩] [0, 1, 2, 3, 4, 5, 6, 7, 8] [])
    (.cond (.t 24)
     (.seq
     (.region [⟨some 4, .mov (.k (.v (.one (.bool false)))), none⟩] [0] [])
     .ret)
     .skip [0, 1, 4, 12, 13]))))
   (.region [⟨some 25, .bin .add (.t 13) (.k (.v (.one (.int .i64 1)))), none⟩,
     ⟨some 13, .mov (.t 25), none⟩] [0, 1] [])))))))
 (.seq
 (.region [⟨some 4, .mov (.k (.v (.one (.bool true)))), none⟩] [0] [])
 .ret))))⟩
theorem t24 : tell Try.prog Try.f24 [([0, 1, 4], [], []), ([0, 1, 12, 13], [], []), ([0, 1, 12, 13], [], []), ([0, 1, 2, 3, 4, 5, 6, 7, 8], [], [0, 0, 3, 7, 0, 0, 48, 112, 255]), ([0, 1, 4, 12, 13], [], [])] = some a24 := by kernel_rfl
theorem ok24 : FuncOk Try.prog 24 a24 := tell_ok Try.func24 t24

/-- railplan/railplanlaw34.example -/
def a25 : AFunc := ⟨1, [2, 3, 4], none,
 (.seq
 (.region [⟨some 2, .mov (.k (.v (.one .nils))), none⟩,
   ⟨some 3, .mov (.k (.v (.one .nils))), none⟩,
   ⟨some 4, .mov (.k (.v (.one .nils))), none⟩] [0, 1, 2] [])
 (.seq
 (.region [⟨some 5, .build [(.int .i64 0), (.bool false)] [(0, 1, (.k (.v (.one (.int .i64 100))))), (1, 1, (.k (.v (.one (.bool true)))))], none⟩,
   ⟨some 6, .build [(.int .i64 0), (.bool false)] [(0, 1, (.k (.v (.one (.int .i64 160)))))], none⟩,
   ⟨some 7, .build [(.int .i64 0), (.bool false)] [(0, 1, (.k (.v (.one (.int .i64 200))))), (1, 1, (.k (.v (.one (.bool true)))))], none⟩,
   ⟨some 8, .bsl 33 2 3 [(.int .i64 0), (.bool false)] [(0, 2, (.t 5)), (2, 2, (.t 6)), (4, 2, (.t 7))], none⟩,
   ⟨some 9, .build [(.int .i64 0), (.int .i64 0), (.int .i64 0), (.int .i64 0)] [(0, 1, (.k (.v (.one (.int .i64 0))))), (1, 1, (.k (.v (.one (.int .i64 1))))), (2, 1, (.k (.v (.one (.int .i64 50))))), (3, 1, (.k (.v (.one (.int .i64 (-1))))))], none⟩,
   ⟨some 10, .build [(.int .i64 0), (.int .i64 0), (.int .i64 0), (.int .i64 0)] [(0, 1, (.k (.v (.one (.int .i64 1))))), (1, 1, (.k (.v (.one (.int .i64 2))))), (2, 1, (.k (.v (.one (.int .i64 20))))), (3, 1, (.k (.v (.one (.int .i64 30)))))], none⟩,
   ⟨some 11, .bsl 35 4 2 [(.int .i64 0), (.int .i64 0), (.int .i64 0), (.int .i64 0)] [(0, 4, (.t 9)), (4, 4, (.t 10))], none⟩,
   ⟨some 12, .mov (.t 0), none⟩,
   ⟨some 13, .build [(.int .i64 0), (.int .i64 0)] [(1, 1, (.t 12))], none⟩,
   ⟨some 14, .bsl 39 2 1 [(.int .i64 0), (.int .i64 0)] [(0, 2, (.t 13))], none⟩,
   ⟨some 2, .mov (.t 8), none⟩,
   ⟨some 3, .mov (.t 11), none⟩,
   ⟨some 4, .mov (.t 14), none⟩] [0, 1, 2, 3, 4, 5, 6, 7, 8, 9, 10, 11, 12] [])
 .ret))⟩
theorem t25 : tell Try.prog Try.f25 [] = some a25 := by kernel_rfl
theorem ok25 : FuncOk Try.prog 25 a25 := tell_ok Try.func25 t25

/-- railplan/railplankeep.From -/
def a26 : AFunc := ⟨1, [2], none,
 (.seq
 (.region [⟨some 2, .mov (.k (.v (.one .nilp))), none⟩] [0] [])
 (.seq
 (.region [⟨some 3, .mov (.t 0), none⟩,
   ⟨some 4, .build [.nils, (.int .i64 0)] [(0, 1, (.t 3))], none⟩,
   ⟨some 5, .box 67 2 (.t 4), none⟩,
   ⟨some 2, .mov (.t 5), none⟩] [0, 1, 2, 3] [])
 .ret))⟩
theorem t26 : tell Try.prog Try.f26 [] = some a26 := by kernel_rfl
theorem ok26 : FuncOk Try.prog 26 a26 := tell_ok Try.func26 t26

/-- (*railplan/railplankeep.Source).Next -/
def a27 : AFunc := ⟨2, [4], none,
 (.seq
 (.region [⟨some 4, .mov (.k (.v (.one (.int .i64 0)))), none⟩] [0] [])
 (.seq
 (.seq
 (.region [⟨some 5, .mov (.t 0), none⟩,
   ⟨some 6, .nilchk (.t 5), none⟩,
   ⟨some 7, .fadr 1 (.t 6), none⟩,
   ⟨some 8, .load none (.t 7), none⟩,
   ⟨some 9, .mov (.t 0), none⟩,
   ⟨some 10, .nilchk (.t 9), none⟩,
   ⟨some 11, .fadr 0 (.t 10), none⟩,
   ⟨some 12, .load none (.t 11), none⟩,
   ⟨some 13, .len (.t 12), none⟩,
   ⟨some 14, .bin .geq (.t 8) (.t 13), none⟩] [0, 1, 2, 3, 4, 5, 6, 7, 8, 9] [])
 (.cond (.t 14)
  (.seq
  (.region [⟨some 4, .mov (.k (.v (.one (.int .i64 0)))), none⟩] [0] [])
  .ret)
  .skip [0, 1, 4]))
 (.seq
 (.region [⟨some 15, .mov (.t 0), none⟩,
   ⟨some 16, .nilchk (.t 15), none⟩,
   ⟨some 17, .fadr 1 (.t 16), none⟩,
   ⟨some 18, .load none (.t 17), none⟩,
   ⟨some 19, .bin .add (.t 18) (.k (.v (.one (.int .i64 1)))), none⟩,
   ⟨some 20, .nilchk (.t 15), none⟩,
   ⟨some 21, .fadr 1 (.t 20), none⟩,
   ⟨none, .store 1 (.t 21) (.t 19), none⟩] [0, 1, 2, 3, 4, 5, 6, 7] [])
 (.seq
 (.region [⟨some 22, .mov (.t 0), none⟩,
   ⟨some 23, .nilchk (.t 22), none⟩,
   ⟨some 24, .fadr 0 (.t 23), none⟩,
   ⟨some 25, .load none (.t 24), none⟩,
   ⟨some 26, .mov (.t 0), none⟩,
   ⟨some 27, .nilchk (.t 26), none⟩,
   ⟨some 28, .fadr 1 (.t 27), none⟩,
   ⟨some 29, .load none (.t 28), none⟩,
   ⟨some 30, .bin .sub (.t 29) (.k (.v (.one (.int .i64 1)))), none⟩,
   ⟨some 31, .iadr 1 (.t 25) (.t 30), none⟩,
   ⟨some 32, .load none (.t 31), none⟩,
   ⟨some 33, .mov (.t 1), none⟩,
   ⟨some 34, .call 15 [(.t 32), (.t 33)], none⟩,
   ⟨some 4, .mov (.t 34), none⟩] [0, 1, 2, 3, 4, 5, 6, 7, 8, 9, 10, 11, 12, 13] [])
 .ret))))⟩
theorem t27 : tell Try.prog Try.f27 [([0, 1, 2, 3, 4, 5, 6, 7, 8, 9], [], [0, 1, 3, 7, 0, 16, 48, 112, 240, 511]), ([0, 1, 4], [], []), ([0, 1, 2, 3, 4, 5, 6, 7, 8, 9, 10, 11, 12, 13], [], [0, 1, 3, 7, 0, 16, 48, 112, 240, 511, 1023, 0, 4095, 8191])] = some a27 := by kernel_rfl
theorem ok27 : FuncOk Try.prog 27 a27 := tell_ok Try.func27 t27

/-- railplan/delay.propagate -/
def a28 : AFunc := ⟨3, [6], some (some 3),
 (.seq
 (.region [⟨some 6, .new 58 [.nils, .nils, .nils], none⟩] [0] [])
 (.seq
 (.region [⟨some 19, .mov (.t 0), none⟩,
   ⟨some 20, .len (.t 19), none⟩,
   ⟨some 21, .mks 3 1 8 [(.int .i64 0)] (.t 20) (.t 20), none⟩,
   ⟨some 22, .mov (.t 0), none⟩,
   ⟨some 23, .len (.t 22), none⟩,
   ⟨some 24, .mks 3 1 8 [(.int .i64 0)] (.t 23) (.t 23), none⟩,
   ⟨some 25, .mov (.t 1), none⟩,
   ⟨some 26, .len (.t 25), none⟩,
   ⟨some 27, .mks 4 1 1 [(.bool false)] (.t 26) (.t 26), none⟩,
   ⟨some 28, .build [.nils, .nils, .nils] [(0, 1, (.t 21)), (1, 1, (.t 24)), (2, 1, (.t 27))], none⟩,
   ⟨some 7, .new 58 [.nils, .nils, .nils], none⟩,
   ⟨none, .store 3 (.t 7) (.t 28), none⟩] [0, 1, 3, 4, 6, 7, 2, 5, 8, 9, 10, 11] [])
 (.seq
 (.region [⟨some 30, .mov (.t 0), none⟩,
   ⟨some 31, .len (.t 30), none⟩,
   ⟨some 32, .mov (.t 1), none⟩,
   ⟨some 33, .call 32 [(.t 31), (.t 32)], none⟩,
   ⟨some 29, .mov (.t 33), none⟩,
   ⟨some 34, .ext 0 (.t 29), none⟩,
   ⟨some 35, .ext 1 (.t 29), none⟩,
   ⟨some 8, .mov (.t 34), none⟩,
   ⟨some 9, .mov (.t 35), none⟩] [0, 1, 2, 3, 4, 5, 6, 7, 8] [])
 (.seq
 (.seq
 (.region [⟨some 36, .mov (.t 8), none⟩,
   ⟨some 37, .len (.t 36), none⟩,
   ⟨some 38, .mov (.k (.v (.one (.int .i64 0)))), none⟩] [0, 1, 2] [])
 (.block 0
  (.loop [0, 1, 2, 6, 7, 36, 37, 38]
   (.seq
   (.region [⟨some 39, .bin .lss (.t 38) (.t 37), none⟩] [0] [])
   (.seq
   (.cond (.t 39)
    .skip
    (.exit 0) [0, 1, 2, 6, 7, 36, 37, 38])
   (.seq
   (.block 1
    (.seq
    (.region [⟨some 40, .iadr 1 (.t 36) (.t 38), none⟩,
      ⟨some 41, .load none (.t 40), none⟩,
      ⟨some 11, .mov (.t 41), none⟩] [0, 1, 2] [])
    (.seq
    (.region [⟨some 42, .mov (.t 0), none⟩,
      ⟨some 43, .mov (.t 11), none⟩,
      ⟨some 44, .iadr 2 (.t 42) (.t 43), none⟩,
      ⟨some 45, .fadr 0 (.t 44), none⟩,
      ⟨some 46, .load none (.t 45), none⟩,
      ⟨some 47, .mov (.t 0), none⟩,
      ⟨some 48, .mov (.t 11), none⟩,
      ⟨some 49, .iadr 2 (.t 47) (.t 48), none⟩,
      ⟨some 50, .fadr 1 (.t 49), none⟩,
      ⟨some 51, .load none (.t 50), none⟩,
      ⟨some 12, .mov (.t 46), none⟩,
      ⟨some 13, .mov (.t 51), none⟩] [0, 1, 2, 3, 4, 5, 6, 7, 8, 9, 10, 11] [])
    (.seq
    (.seq
    (.region [⟨some 52, .mov (.t 1), none⟩,
      ⟨some 53, .len (.t 52), none⟩,
      ⟨some 54, .mov (.k (.v (.one (.int .i64 0)))), none⟩] [0, 1, 2] [])
    (.block 2
     (.loop [0, 1, 2, 6, 7, 11, 12, 13, 36, 37, 38, 52, 53, 54]
      (.seq
      (.region [⟨some 55, .bin .lss (.t 54) (.t 53), none⟩] [0] [])
      (.seq
      (.cond (.t 55)
       .skip
       (.exit 2) [0, 1, 2, 6, 7, 11, 12, 13, 36, 37, 38, 52, 53, 54])
      (.seq
      (.block 3
       (.seq
       (.region [⟨some 56, .mov (.t 54), none⟩,
         ⟨some 57, .iadr 4 (.t 52) (.t 54), none⟩,
         ⟨some 58, .load (some 4) (.t 57), none⟩,
         ⟨some 15, .new 35 [(.int .i64 0), (.int .i64 0), (.int .i64 0), (.int .i64 0)], none⟩,
         ⟨some 14, .mov (.t 56), none⟩,
         ⟨none, .store 4 (.t 15) (.t 58), none⟩] [0, 1, 2, 3, 4, 5] [])
       (.seq
       (.seq
       (.region [⟨some 59, .fadr 1 (.t 15), none⟩,
         ⟨some 60, .load none (.t 59), none⟩,
         ⟨some 61, .mov (.t 11), none⟩,
         ⟨some 62, .bin .neq (.t 60) (.t 61), none⟩] [0, 1, 2, 3] [])
       (.cond (.t 62)
        (.exit 3)
        .skip [0, 1, 2, 6, 7, 11, 12, 13, 14, 15, 36, 37, 38, 52, 53, 54]))
       (.seq
       (.region [⟨some 63, .fadr 1 (.t 7), none⟩,
         ⟨some 64, .load none (.t 63), none⟩,
         ⟨some 65, .fadr 0 (.t 15), none⟩,
         ⟨some 66, .load none (.t 65), none⟩,
         ⟨some 67, .iadr 1 (.t 64) (.t 66), none⟩,
         ⟨some 68, .load none (.t 67), none⟩,
         ⟨some 69, .fadr 2 (.t 15), none⟩,
         ⟨some 70, .load none (.t 69), none⟩,
         ⟨some 71, .bin .add (.t 68) (.t 70), none⟩,
         ⟨some 16, .mov (.t 71), none⟩] [0, 1, 2, 3, 4, 5, 6, 7, 8, 9] [])
       (.seq
       (.seq
       (.region [⟨some 72, .fadr 2 (.t 7), none⟩,
         ⟨some 73, .load none (.t 72), none⟩,
         ⟨some 74, .mov (.t 14), none⟩,
         ⟨some 75, .fadr 3 (.t 15), none⟩,
         ⟨some 76, .load none (.t 75), none⟩,
         ⟨some 77, .bin .eql (.t 76) (.k (.v (.one (.int .i64 (-1))))), none⟩,
         ⟨some 78, .mov (.t 77), none⟩,
         ⟨some 79, .mov (.t 16), some (78, false)⟩,
         ⟨some 80, .mov (.t 0), some (78, false)⟩,
         ⟨some 81, .mov (.t 11), some (78, false)⟩,
         ⟨some 82, .iadr 2 (.t 80) (.t 81), some (78, false)⟩,
         ⟨some 83, .fadr 0 (.t 82), some (78, false)⟩,
         ⟨some 84, .load none (.t 83), some (78, false)⟩,
         ⟨some 85, .fadr 3 (.t 15), some (78, false)⟩,
         ⟨some 86, .load none (.t 85), some (78, false)⟩,
         ⟨some 87, .bin .add (.t 84) (.t 86), some (78, false)⟩,
         ⟨some 88, .bin .leq (.t 79) (.t 87), some (78, false)⟩,
         ⟨some 89, .pick (.t 78) (.k (.v (.one (.bool true)))) (.t 88), none⟩,
         ⟨some 90, .iadr 1 (.t 73) (.t 74), none⟩,
         ⟨none, .store 1 (.t 90) (.t 89), none⟩] [0, 1, 2, 3, 4, 5, 6, 7, 8, 9, 10, 11, 12, 13, 14, 15, 16, 17, 18, 19] [])
       (.seq
       (.region [⟨some 91, .fadr 2 (.t 7), none⟩,
         ⟨some 92, .load none (.t 91), none⟩,
         ⟨some 93, .mov (.t 14), none⟩,
         ⟨some 94, .iadr 1 (.t 92) (.t 93), none⟩,
         ⟨some 95, .load none (.t 94), none⟩,
         ⟨some 96, .not (.t 95), none⟩] [0, 1, 2, 3, 4, 5] [])
       (.cond (.t 96)
        (.exit 3)
        .skip [0, 1, 2, 6, 7, 11, 12, 13, 16, 36, 37, 38, 52, 53, 54])))
       (.seq
       (.region [⟨some 97, .mov (.t 13), none⟩,
         ⟨some 98, .not (.t 97), none⟩,
         ⟨some 99, .mov (.t 98), none⟩,
         ⟨some 100, .mov (.t 16), some (99, false)⟩,
         ⟨some 101, .mov (.t 12), some (99, false)⟩,
         ⟨some 102, .bin .gtr (.t 100) (.t 101), some (99, false)⟩,
         ⟨some 103, .pick (.t 99) (.k (.v (.one (.bool true)))) (.t 102), none⟩] [0, 1, 2, 3, 4, 5, 6] [])
       (.cond (.t 103)
        (.region [⟨some 104, .mov (.t 16), none⟩,
          ⟨some 12, .mov (.t 104), none⟩,
          ⟨some 13, .mov (.k (.v (.one (.bool true)))), none⟩] [0, 1, 2] [])
        .skip [0, 1, 2, 6, 7, 11, 12, 13, 36, 37, 38, 52, 53, 54])))))))
      (.region [⟨some 105, .bin .add (.t 54) (.k (.v (.one (.int .i64 1)))), none⟩,
        ⟨some 54, .mov (.t 105), none⟩] [0, 1] [])))))))
    (.seq
    (.region [⟨some 106, .fadr 0 (.t 7), none⟩,
      ⟨some 107, .load none (.t 106), none⟩,
      ⟨some 108, .mov (.t 11), none⟩,
      ⟨some 109, .fadr 1 (.t 7), none⟩,
      ⟨some 110, .load none (.t 109), none⟩,
      ⟨some 111, .mov (.t 11), none⟩,
      ⟨some 112, .mov (.t 12), none⟩,
      ⟨some 113, .mov (.t 12), none⟩,
      ⟨some 114, .iadr 1 (.t 107) (.t 108), none⟩,
      ⟨none, .store 1 (.t 114) (.t 112), none⟩,
      ⟨some 115, .iadr 1 (.t 110) (.t 111), none⟩,
      ⟨none, .store 1 (.t 115) (.t 113), none⟩] [0, 1, 2, 3, 4, 5, 6, 7, 8, 9, 10, 11] [(9, [4])])
    (.seq
    (.region [⟨some 116, .mov (.t 2), none⟩,
      ⟨some 117, .len (.t 116), none⟩,
      ⟨some 118, .mov (.k (.v (.one (.int .i64 0)))), none⟩] [0, 1, 2] [])
    (.block 4
     (.loop [0, 1, 2, 6, 7, 11, 36, 37, 38, 116, 117, 118]
      (.seq
      (.region [⟨some 119, .bin .lss (.t 118) (.t 117), none⟩] [0] [])
      (.seq
      (.cond (.t 119)
       .skip
       (.exit 4) [0, 1, 2, 6, 7, 11, 36, 37, 38, 116, 117, 118])
      (.seq
      (.block 5
       (.seq
       (.region [⟨some 120, .iadr 2 (.t 116) (.t 118), none⟩,
         ⟨some 121, .load (some 2) (.t 120), none⟩,
         ⟨some 18, .new 39 [(.int .i64 0), (.int .i64 0)], none⟩,
         ⟨none, .store 2 (.t 18) (.t 121), none⟩] [0, 1, 2, 3] [])
       (.seq
       (.region [⟨some 122, .fadr 0 (.t 18), none⟩,
         ⟨some 123, .load none (.t 122), none⟩,
         ⟨some 124, .mov (.t 11), none⟩,
         ⟨some 125, .bin .eql (.t 123) (.t 124), none⟩] [0, 1, 2, 3] [])
       (.cond (.t 125)
        (.region [⟨some 126, .fadr 1 (.t 7), none⟩,
          ⟨some 127, .load none (.t 126), none⟩,
          ⟨some 128, .mov (.t 11), none⟩,
          ⟨some 129, .iadr 1 (.t 127) (.t 128), none⟩,
          ⟨some 130, .load none (.t 129), none⟩,
          ⟨some 131, .fadr 1 (.t 18), none⟩,
          ⟨some 132, .load none (.t 131), none⟩,
          ⟨some 133, .bin .add (.t 130) (.t 132), none⟩,
          ⟨some 134, .iadr 1 (.t 127) (.t 128), none⟩,
          ⟨none, .store 1 (.t 134) (.t 133), none⟩] [0, 1, 2, 3, 4, 5, 6, 7, 8, 9] [])
        .skip [0, 1, 2, 6, 7, 11, 36, 37, 38, 116, 117, 118]))))
      (.region [⟨some 135, .bin .add (.t 118) (.k (.v (.one (.int .i64 1)))), none⟩,
        ⟨some 118, .mov (.t 135), none⟩] [0, 1] []))))))))))))
   (.region [⟨some 136, .bin .add (.t 38) (.k (.v (.one (.int .i64 1)))), none⟩,
     ⟨some 38, .mov (.t 136), none⟩] [0, 1] [])))))))
 (.seq
 (.region [⟨some 137, .load (some 3) (.t 7), none⟩,
   ⟨none, .store 3 (.t 6) (.t 137), none⟩] [0, 1] [])
 .ret)))))⟩
theorem t28 : tell Try.prog Try.f28 [([0, 1, 3, 4, 6, 7, 2, 5, 8, 9, 10, 11], [], [0, 1, 3, 0, 8, 24, 0, 64, 192, 511, 0, 2047]), ([0, 1, 2, 6, 7, 36, 37, 38], [], []), ([0, 1, 2, 6, 7, 36, 37, 38], [], []), ([0, 1, 2, 3, 4, 5, 6, 7, 8, 9, 10, 11], [], [0, 0, 3, 7, 15, 0, 0, 96, 224, 480, 31, 2047]), ([0, 1, 2, 6, 7, 11, 12, 13, 36, 37, 38, 52, 53, 54], [], []), ([0, 1, 2, 6, 7, 11, 12, 13, 36, 37, 38, 52, 53, 54], [], []), ([0, 1, 2, 6, 7, 11, 12, 13, 14, 15, 36, 37, 38, 52, 53, 54], [], []), ([0, 1, 2, 3, 4, 5, 6, 7, 8, 9], [], [0, 1, 0, 4, 15, 31, 0, 64, 255, 511]), ([0, 1, 2, 3, 4, 5, 6, 7, 8, 9, 10, 11, 12, 13, 14, 15, 16, 17, 18, 19], [], [0, 1, 0, 0, 8, 24, 56, 120, 120, 120, 888, 1912, 3960, 120, 8312, 32632, 65528, 131064, 262143, 524287]), ([0, 1, 2, 6, 7, 11, 12, 13, 16, 36, 37, 38, 52, 53, 54], [], []), ([0, 1, 2, 6, 7, 11, 12, 13, 36, 37, 38, 52, 53, 54], [], []), ([0, 1, 2, 3, 4, 5, 6, 7, 8, 9, 10, 11], [(9, [4])], [0, 1, 0, 0, 8, 0, 0, 0, 71, 327, 1023, 2047]), ([0, 1, 2, 6, 7, 11, 36, 37, 38, 116, 117, 118], [], []), ([0, 1, 2, 6, 7, 11, 36, 37, 38, 116, 117, 118], [], []), ([0, 1, 2, 6, 7, 11, 36, 37, 38, 116, 117, 118], [], []), ([0, 1, 2, 3, 4, 5, 6, 7, 8, 9], [], [0, 1, 0, 7, 15, 0, 32, 127, 255, 511])] = some a28 := by kernel_rfl
theorem ok28 : FuncOk Try.prog 28 a28 := tell_ok Try.func28 t28

/-- railplan/railplanref30.topological -/
def a29 : AFunc := ⟨2, [4, 5], none,
 (.seq
 (.region [⟨some 4, .mov (.k (.v (.one .nils))), none⟩,
   ⟨some 5, .mov (.k (.v (.one (.bool false)))), none⟩] [0, 1] [])
 (.seq
 (.region [⟨some 13, .mov (.t 0), none⟩,
   ⟨some 14, .mks 4 1 1 [(.bool false)] (.t 13) (.t 13), none⟩,
   ⟨some 6, .mov (.t 14), none⟩] [0, 1, 2] [])
 (.seq
 (.region [⟨some 7, .mov (.k (.v (.one .nils))), none⟩] [0] [])
 (.seq
 (.block 0
  (.loop [0, 1, 6, 7]
   (.seq
   (.seq
   (.region [⟨some 15, .mov (.t 7), none⟩,
     ⟨some 16, .len (.t 15), none⟩,
     ⟨some 17, .mov (.t 0), none⟩,
     ⟨some 18, .bin .lss (.t 16) (.t 17), none⟩] [0, 1, 2, 3] [])
   (.cond (.t 18)
    .skip
    (.exit 0) [0, 1, 6, 7]))
   (.block 1
    (.seq
    (.region [⟨some 8, .mov (.k (.v (.one (.int .i64 (-1))))), none⟩] [0] [])
    (.seq
    (.seq
    (.region [⟨some 9, .mov (.k (.v (.one (.int .i64 0)))), none⟩] [0] [])
    (.block 2
     (.loop [0, 1, 6, 7, 8, 9]
      (.seq
      (.seq
      (.region [⟨some 19, .mov (.t 9), none⟩,
        ⟨some 20, .mov (.t 0), none⟩,
        ⟨some 21, .bin .lss (.t 19) (.t 20), none⟩,
        ⟨some 22, .mov (.t 21), none⟩,
        ⟨some 23, .mov (.t 8), some (22, true)⟩,
        ⟨some 24, .bin .lss (.t 23) (.k (.v (.one (.int .i64 0)))), some (22, true)⟩,
        ⟨some 25, .pick (.t 22) (.t 24) (.k (.v (.one (.bool false)))), none⟩] [0, 1, 2, 3, 4, 5, 6] [])
      (.cond (.t 25)
       .skip
       (.exit 2) [0, 1, 6, 7, 8, 9]))
      (.seq
      (.block 3
       (.seq
       (.region [⟨some 28, .mov (.t 6), none⟩,
         ⟨some 29, .mov (.t 9), none⟩,
         ⟨some 30, .iadr 1 (.t 28) (.t 29), none⟩,
         ⟨some 31, .load none (.t 30), none⟩,
         ⟨some 32, .not (.t 31), none⟩,
         ⟨some 10, .mov (.t 32), none⟩] [0, 1, 2, 3, 4, 5] [])
       (.seq
       (.seq
       (.region [⟨some 33, .mov (.t 1), none⟩,
         ⟨some 34, .len (.t 33), none⟩,
         ⟨some 35, .mov (.k (.v (.one (.int .i64 0)))), none⟩] [0, 1, 2] [])
       (.block 4
        (.loop [0, 1, 6, 7, 8, 9, 10, 33, 34, 35]
         (.seq
         (.region [⟨some 36, .bin .lss (.t 35) (.t 34), none⟩] [0] [])
         (.seq
         (.cond (.t 36)
          .skip
          (.exit 4) [0, 1, 6, 7, 8, 9, 10, 33, 34, 35])
         (.seq
         (.block 5
          (.seq
          (.region [⟨some 37, .iadr 4 (.t 33) (.t 35), none⟩,
            ⟨some 38, .load (some 4) (.t 37), none⟩,
            ⟨some 12, .new 35 [(.int .i64 0), (.int .i64 0), (.int .i64 0), (.int .i64 0)], none⟩,
            ⟨none, .store 4 (.t 12) (.t 38), none⟩] [0, 1, 2, 3] [])
          (.region [⟨some 39, .mov (.t 10), none⟩,
            ⟨some 40, .mov (.t 39), none⟩,
            ⟨some 41, .fadr 1 (.t 12), some (40, true)⟩,
            ⟨some 42, .load none (.t 41), some (40, true)⟩,
            ⟨some 43, .mov (.t 9), some (40, true)⟩,
            ⟨some 44, .bin .neq (.t 42) (.t 43), some (40, true)⟩,
            ⟨some 45, .mov (.t 44), some (40, true)⟩,
            ⟨some 46, .mov (.t 6), some (45, false)⟩,
            ⟨some 47, .fadr 0 (.t 12), some (45, false)⟩,
            ⟨some 48, .load none (.t 47), some (45, false)⟩,
            ⟨some 49, .iadr 1 (.t 46) (.t 48), some (45, false)⟩,
            ⟨some 50, .load none (.t 49), some (45, false)⟩,
            ⟨some 51, .pick (.t 45) (.k (.v (.one (.bool true)))) (.t 50), some (40, true)⟩,
            ⟨some 52, .pick (.t 40) (.t 51) (.k (.v (.one (.bool false)))), none⟩,
            ⟨some 10, .mov (.t 52), none⟩] [0, 1, 2, 3, 4, 5, 6, 7, 8, 9, 10, 11, 12, 13, 14] [])))
         (.region [⟨some 53, .bin .add (.t 35) (.k (.v (.one (.int .i64 1)))), none⟩,
           ⟨some 35, .mov (.t 53), none⟩] [0, 1] [])))))))
       (.seq
       (.region [⟨some 54, .mov (.t 10), none⟩] [0] [])
       (.cond (.t 54)
        (.region [⟨some 55, .mov (.t 9), none⟩,
          ⟨some 8, .mov (.t 55), none⟩] [0, 1] [])
        .skip [0, 1, 6, 7, 8, 9])))))
      (.region [⟨some 26, .mov (.t 9), none⟩,
        ⟨some 27, .bin .add (.t 26) (.k (.v (.one (.int .i64 1)))), none⟩,
        ⟨some 9, .mov (.t 27), none⟩] [0, 1, 2] []))))))
    (.seq
    (.seq
    (.region [⟨some 56, .mov (.t 8), none⟩,
      ⟨some 57, .bin .lss (.t 56) (.k (.v (.one (.int .i64 0)))), none⟩] [0, 1] [])
    (.cond (.t 57)
     (.seq
     (.region [⟨some 4, .mov (.k (.v (.one .nils))), none⟩,
       ⟨some 5, .mov (.k (.v (.one (.bool false)))), none⟩] [0, 1] [])
     .ret)
     .skip [0, 1, 4, 5, 6, 7, 8]))
    (.seq
    (.region [⟨some 58, .mov (.t 6), none⟩,
      ⟨some 59, .mov (.t 8), none⟩,
      ⟨some 60, .iadr 1 (.t 58) (.t 59), none⟩,
      ⟨none, .store 1 (.t 60) (.k (.v (.one (.bool true)))), none⟩] [0, 1, 2, 3] [])
    (.region [⟨some 61, .mov (.t 7), none⟩,
      ⟨some 62, .mov (.t 8), none⟩,
      ⟨some 63, .bsl 3 1 1 [(.int .i64 0)] [(0, 1, (.t 62))], none⟩,
      ⟨some 64, .app 3 1 8 (.t 61) (.t 63), none⟩,
      ⟨some 7, .mov (.t 64), none⟩] [0, 1, 2, 3, 4] [])))))))))
 (.seq
 (.region [⟨some 65, .mov (.t 7), none⟩,
   ⟨some 4, .mov (.t 65), none⟩,
   ⟨some 5, .mov (.k (.v (.one (.bool true)))), none⟩] [0, 1, 2] [])
 .ret)))))⟩
theorem t29 : tell Try.prog Try.f29 [([0, 1, 6, 7], [], []), ([0, 1, 6, 7], [], []), ([0, 1, 6, 7, 8, 9], [], []), ([0, 1, 6, 7, 8, 9], [], []), ([0, 1, 6, 7, 8, 9, 10, 33, 34, 35], [], []), ([0, 1, 6, 7, 8, 9, 10, 33, 34, 35], [], []), ([0, 1, 6, 7, 8, 9], [], []), ([0, 1, 4, 5, 6, 7, 8], [], [])] = some a29 := by kernel_rfl
theorem ok29 : FuncOk Try.prog 29 a29 := tell_ok Try.func29 t29

/-- railplan/railplanref30.primary -/
def a30 : AFunc := ⟨2, [4], none,
 (.seq
 (.region [⟨some 4, .mov (.k (.v (.one (.int .i64 0)))), none⟩] [0] [])
 (.seq
 (.seq
 (.region [⟨some 7, .mov (.t 0), none⟩,
   ⟨some 8, .len (.t 7), none⟩,
   ⟨some 9, .mov (.k (.v (.one (.int .i64 0)))), none⟩] [0, 1, 2] [])
 (.block 0
  (.loop [1, 7, 8, 9]
   (.seq
   (.region [⟨some 10, .bin .lss (.t 9) (.t 8), none⟩] [0] [])
   (.seq
   (.cond (.t 10)
    .skip
    (.exit 0) [1, 7, 8, 9])
   (.seq
   (.block 1
    (.seq
    (.region [⟨some 11, .iadr 2 (.t 7) (.t 9), none⟩,
      ⟨some 12, .load (some 2) (.t 11), none⟩,
      ⟨some 6, .new 39 [(.int .i64 0), (.int .i64 0)], none⟩,
      ⟨none, .store 2 (.t 6) (.t 12), none⟩] [0, 1, 2, 3] [])
    (.seq
    (.region [⟨some 13, .fadr 0 (.t 6), none⟩,
      ⟨some 14, .load none (.t 13), none⟩,
      ⟨some 15, .mov (.t 1), none⟩,
      ⟨some 16, .bin .eql (.t 14) (.t 15), none⟩] [0, 1, 2, 3] [])
    (.cond (.t 16)
     (.seq
     (.region [⟨some 17, .fadr 1 (.t 6), none⟩,
       ⟨some 18, .load none (.t 17), none⟩,
       ⟨some 4, .mov (.t 18), none⟩] [0, 1, 2] [])
     .ret)
     .skip [1, 4, 7, 8, 9]))))
   (.region [⟨some 19, .bin .add (.t 9) (.k (.v (.one (.int .i64 1)))), none⟩,
     ⟨some 9, .mov (.t 19), none⟩] [0, 1] [])))))))
 (.seq
 (.region [⟨some 4, .mov (.k (.v (.one (.int .i64 0)))), none⟩] [0] [])
 .ret)))⟩
theorem t30 : tell Try.prog Try.f30 [([1, 7, 8, 9], [], []), ([1, 7, 8, 9], [], []), ([1, 4, 7, 8, 9], [], [])] = some a30 := by kernel_rfl
theorem ok30 : FuncOk Try.prog 30 a30 := tell_ok Try.func30 t30

/-- railplan/delay.within -/
def a31 : AFunc := ⟨1, [2], none,
 (.seq
 (.region [⟨some 2, .mov (.k (.v (.one (.bool false)))), none⟩] [0] [])
 (.seq
 (.region [⟨some 3, .mov (.t 0), none⟩,
   ⟨some 4, .bin .geq (.t 3) (.k (.v (.one (.int .i64 0)))), none⟩,
   ⟨some 5, .mov (.t 4), none⟩,
   ⟨some 6, .mov (.t 0), some (5, true)⟩,
   ⟨some 7, .bin .leq (.t 6) (.k (.v (.one (.int .i64 4194304)))), some (5, true)⟩,
   ⟨some 8, .pick (.t 5) (.t 7) (.k (.v (.one (.bool false)))), none⟩,
   ⟨some 2, .mov (.t 8), none⟩] [0, 1, 2, 3, 4, 5, 6] [])
 .ret))⟩
theorem t31 : tell Try.prog Try.f31 [] = some a31 := by kernel_rfl
theorem ok31 : FuncOk Try.prog 31 a31 := tell_ok Try.func31 t31

end Go.Proofs.Ythoicdnlcnppgaa.Fn
