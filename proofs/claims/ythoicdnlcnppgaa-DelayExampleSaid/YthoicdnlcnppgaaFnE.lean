/- Functions of the program, as the abstract machine's, and that they are. Conditions: none. -/
import Derived.Test.YthoicdnlcnppgaaAmCo
import Derived.Test.YthoicdnlcnppgaaProg
set_option linter.unusedVariables false
namespace Go.Proofs.Ythoicdnlcnppgaa.Fn
open Go Go.Am
set_option maxRecDepth 100000
/-- railplan/railplanref30.Cause -/
def a21 : AFunc := ⟨4, [8, 9], none,
 (.seq
 (.region [⟨some 8, .mov (.k (.v (.one .nils))), none⟩,
   ⟨some 9, .mov (.k (.v (.one (.int .i64 0)))), none⟩] [0, 1] [])
 (.seq
 (.region [⟨some 19, .mov (.t 0), none⟩,
   ⟨some 20, .mov (.t 1), none⟩,
   ⟨some 21, .mov (.t 2), none⟩,
   ⟨some 22, .call 16 [(.t 19), (.t 20), (.t 21)], none⟩,
   ⟨some 18, .mov (.t 22), none⟩,
   ⟨some 23, .ext 0 (.t 18), none⟩,
   ⟨some 24, .ext 1 (.t 18), none⟩,
   ⟨some 25, .ext 2 (.t 18), none⟩,
   ⟨some 10, .mov (.t 23), none⟩,
   ⟨some 11, .mov (.t 24), none⟩,
   ⟨some 12, .mov (.t 25), none⟩] [0, 1, 2, 3, 4, 5, 6, 7, 8, 9, 10] [])
 (.seq
 (.seq
 (.region [⟨some 26, .mov (.t 12), none⟩,
   ⟨some 27, .bin .neq (.t 26) (.k (.v (.one (.int .i64 0)))), none⟩] [0, 1] [])
 (.cond (.t 27)
  (.seq
  (.region [⟨some 28, .mov (.t 12), none⟩,
    ⟨some 8, .mov (.k (.v (.one .nils))), none⟩,
    ⟨some 9, .mov (.t 28), none⟩] [0, 1, 2] [])
  .ret)
  .skip [0, 1, 2, 3, 8, 9, 10, 11]))
 (.seq
 (.seq
 (.region [⟨some 29, .mov (.t 3), none⟩,
   ⟨some 30, .bin .lss (.t 29) (.k (.v (.one (.int .i64 0)))), none⟩,
   ⟨some 31, .mov (.t 30), none⟩,
   ⟨some 32, .mov (.t 3), some (31, false)⟩,
   ⟨some 33, .mov (.t 0), some (31, false)⟩,
   ⟨some 34, .len (.t 33), some (31, false)⟩,
   ⟨some 35, .bin .geq (.t 32) (.t 34), some (31, false)⟩,
   ⟨some 36, .pick (.t 31) (.k (.v (.one (.bool true)))) (.t 35), none⟩] [0, 1, 2, 3, 4, 5, 6, 7] [])
 (.cond (.t 36)
  (.seq
  (.region [⟨some 8, .mov (.k (.v (.one .nils))), none⟩,
    ⟨some 9, .mov (.k (.v (.one (.int .i64 4)))), none⟩] [0, 1] [])
  .ret)
  .skip [0, 1, 2, 3, 8, 9, 10, 11]))
 (.seq
 (.region [⟨some 13, .mov (.k (.v (.one .nils))), none⟩] [0] [])
 (.block 0
  (.loop [0, 1, 2, 3, 10, 11, 13]
   (.block 1
    (.seq
    (.region [⟨some 37, .mov (.t 10), none⟩,
      ⟨some 38, .mov (.t 3), none⟩,
      ⟨some 39, .iadr 1 (.t 37) (.t 38), none⟩,
      ⟨some 40, .load none (.t 39), none⟩,
      ⟨some 41, .mov (.t 2), none⟩,
      ⟨some 42, .mov (.t 3), none⟩,
      ⟨some 43, .call 30 [(.t 41), (.t 42)], none⟩,
      ⟨some 44, .bin .sub (.t 40) (.t 43), none⟩,
      ⟨some 14, .mov (.t 44), none⟩] [0, 1, 2, 3, 4, 5, 6, 7, 8] [(6, [3])])
    (.seq
    (.region [⟨some 15, .mov (.k (.v (.one (.int .i64 (-1))))), none⟩] [0] [])
    (.seq
    (.seq
    (.region [⟨some 45, .mov (.t 1), none⟩,
      ⟨some 46, .len (.t 45), none⟩,
      ⟨some 47, .bin .sub (.t 46) (.k (.v (.one (.int .i64 1)))), none⟩,
      ⟨some 16, .mov (.t 47), none⟩] [0, 1, 2, 3] [])
    (.block 2
     (.loop [0, 1, 2, 3, 10, 11, 13, 14, 15, 16]
      (.seq
      (.seq
      (.region [⟨some 48, .mov (.t 16), none⟩,
        ⟨some 49, .bin .geq (.t 48) (.k (.v (.one (.int .i64 0)))), none⟩] [0, 1] [])
      (.cond (.t 49)
       .skip
       (.exit 2) [0, 1, 2, 3, 10, 11, 13, 14, 15, 16]))
      (.seq
      (.block 3
       (.seq
       (.region [⟨some 52, .mov (.t 1), none⟩,
         ⟨some 53, .mov (.t 16), none⟩,
         ⟨some 54, .iadr 4 (.t 52) (.t 53), none⟩,
         ⟨some 55, .load (some 4) (.t 54), none⟩,
         ⟨some 17, .new 35 [(.int .i64 0), (.int .i64 0), (.int .i64 0), (.int .i64 0)], none⟩,
         ⟨none, .store 4 (.t 17) (.t 55), none⟩] [0, 1, 2, 3, 4, 5] [])
       (.seq
       (.region [⟨some 56, .fadr 1 (.t 17), none⟩,
         ⟨some 57, .load none (.t 56), none⟩,
         ⟨some 58, .mov (.t 3), none⟩,
         ⟨some 59, .bin .eql (.t 57) (.t 58), none⟩,
         ⟨some 60, .mov (.t 59), none⟩,
         ⟨some 61, .mov (.t 11), some (60, true)⟩,
         ⟨some 62, .mov (.t 16), some (60, true)⟩,
         ⟨some 63, .iadr 1 (.t 61) (.t 62), some (60, true)⟩,
         ⟨some 64, .load none (.t 63), some (60, true)⟩,
         ⟨some 65, .pick (.t 60) (.t 64) (.k (.v (.one (.bool false)))), none⟩,
         ⟨some 66, .mov (.t 65), none⟩,
         ⟨some 67, .mov (.t 10), some (66, true)⟩,
         ⟨some 68, .fadr 0 (.t 17), some (66, true)⟩,
         ⟨some 69, .load none (.t 68), some (66, true)⟩,
         ⟨some 70, .iadr 1 (.t 67) (.t 69), some (66, true)⟩,
         ⟨some 71, .load none (.t 70), some (66, true)⟩,
         ⟨some 72, .fadr 2 (.t 17), some (66, true)⟩,
         ⟨some 73, .load none (.t 72), some (66, true)⟩,
         ⟨some 74, .bin .add (.t 71) (.t 73), some (66, true)⟩,
         ⟨some 75, .mov (.t 14), some (66, true)⟩,
         ⟨some 76, .bin .eql (.t 74) (.t 75), some (66, true)⟩,
         ⟨some 77, .pick (.t 66) (.t 76) (.k (.v (.one (.bool false)))), none⟩,
         ⟨some 78, .mov (.t 77), none⟩,
         ⟨some 79, .mov (.t 0), some (78, true)⟩,
         ⟨some 80, .mov (.t 3), some (78, true)⟩,
         ⟨some 81, .iadr 2 (.t 79) (.t 80), some (78, true)⟩,
         ⟨some 82, .fadr 1 (.t 81), some (78, true)⟩,
         ⟨some 83, .load none (.t 82), some (78, true)⟩,
         ⟨some 84, .not (.t 83), some (78, true)⟩,
         ⟨some 85, .mov (.t 84), some (78, true)⟩,
         ⟨some 86, .mov (.t 14), some (85, false)⟩,
         ⟨some 87, .mov (.t 0), some (85, false)⟩,
         ⟨some 88, .mov (.t 3), some (85, false)⟩,
         ⟨some 89, .iadr 2 (.t 87) (.t 88), some (85, false)⟩,
         ⟨some 90, .fadr 0 (.t 89), some (85, false)⟩,
         ⟨some 91, .load none (.t 90), some (85, false)⟩,
         ⟨some 92, .bin .gtr (.t 86) (.t 91), some (85, false)⟩,
         ⟨some 93, .pick (.t 85) (.k (.v (.one (.bool true)))) (.t 92), some (78, true)⟩,
         ⟨some 94, .pick (.t 78) (.t 93) (.k (.v (.one (.bool false)))), none⟩] [0, 1, 2, 3, 4, 5, 6, 7, 8, 9, 10, 11, 12, 13, 14, 15, 16, 17, 18, 19, 20, 21, 22, 23, 24, 25, 26, 27, 28, 29, 30, 31, 32, 33, 34, 35, 36, 37, 38] [])
       (.cond (.t 94)
        (.region [⟨some 95, .mov (.t 16), none⟩,
          ⟨some 15, .mov (.t 95), none⟩] [0, 1] [])
        .skip [0, 1, 2, 3, 10, 11, 13, 14, 15, 16]))))
      (.region [⟨some 50, .mov (.t 16), none⟩,
        ⟨some 51, .bin .sub (.t 50) (.k (.v (.one (.int .i64 1)))), none⟩,
        ⟨some 16, .mov (.t 51), none⟩] [0, 1, 2] []))))))
    (.seq
    (.seq
    (.region [⟨some 96, .mov (.t 15), none⟩,
      ⟨some 97, .bin .lss (.t 96) (.k (.v (.one (.int .i64 0)))), none⟩] [0, 1] [])
    (.cond (.t 97)
     (.seq
     (.region [⟨some 98, .mov (.t 13), none⟩,
       ⟨some 8, .mov (.t 98), none⟩,
       ⟨some 9, .mov (.k (.v (.one (.int .i64 0)))), none⟩] [0, 1, 2] [])
     .ret)
     .skip [0, 1, 2, 8, 9, 10, 11, 13, 15]))
    (.seq
    (.region [⟨some 99, .mov (.t 13), none⟩,
      ⟨some 100, .mov (.t 15), none⟩,
      ⟨some 101, .bsl 3 1 1 [(.int .i64 0)] [(0, 1, (.t 100))], none⟩,
      ⟨some 102, .app 3 1 8 (.t 99) (.t 101), none⟩,
      ⟨some 13, .mov (.t 102), none⟩] [0, 1, 2, 3, 4] [])
    (.region [⟨some 103, .mov (.t 1), none⟩,
      ⟨some 104, .mov (.t 15), none⟩,
      ⟨some 105, .iadr 4 (.t 103) (.t 104), none⟩,
      ⟨some 106, .fadr 0 (.t 105), none⟩,
      ⟨some 107, .load none (.t 106), none⟩,
      ⟨some 3, .mov (.t 107), none⟩] [0, 1, 2, 3, 4, 5] []))))))))))))))⟩
theorem t21 : tell Try.prog Try.f21 [([0, 1, 2, 3, 8, 9, 10, 11], [], []), ([0, 1, 2, 3, 8, 9, 10, 11], [], []), ([0, 1, 2, 3, 10, 11, 13], [], []), ([0, 1, 2, 3, 4, 5, 6, 7, 8], [(6, [3])], [0, 0, 3, 7, 0, 0, 48, 127, 255]), ([0, 1, 2, 3, 10, 11, 13, 14, 15, 16], [], []), ([0, 1, 2, 3, 10, 11, 13, 14, 15, 16], [], []), ([0, 1, 2, 3, 4, 5, 6, 7, 8, 9, 10, 11, 12, 13, 14, 15, 16, 17, 18, 19, 20, 21, 22, 23, 24, 25, 26, 27, 28, 29, 30, 31, 32, 33, 34, 35, 36, 37, 38], [], [0, 1, 0, 7, 15, 31, 31, 127, 255, 511, 1023, 2047, 2047, 6143, 16383, 32767, 2047, 67583, 262143, 2047, 1048575, 2097151, 4194303, 8388607, 8388607, 33554431, 67108863, 134217727, 268435455, 536870911, 1073741823, 1073741823, 1073741823, 7516192767, 16106127359, 33285996543, 68719476735, 137438953471, 274877906943]), ([0, 1, 2, 3, 10, 11, 13, 14, 15, 16], [], []), ([0, 1, 2, 8, 9, 10, 11, 13, 15], [], [])] = some a21 := by kernel_rfl
theorem ok21 : FuncOk Try.prog 21 a21 := tell_ok Try.func21 t21

/-- railplan/delay.Check -/
def a22 : AFunc := ⟨3, [6], none,
 (.seq
 (.region [⟨some 6, .mov (.k (.v (.one (.bool false)))), none⟩] [0] [])
 (.seq
 (.seq
 (.region [⟨some 16, .mov (.t 0), none⟩,
   ⟨some 17, .len (.t 16), none⟩,
   ⟨some 18, .bin .gtr (.t 17) (.k (.v (.one (.int .i64 64)))), none⟩,
   ⟨some 19, .mov (.t 18), none⟩,
   ⟨some 20, .mov (.t 1), some (19, false)⟩,
   ⟨some 21, .len (.t 20), some (19, false)⟩,
   ⟨some 22, .bin .gtr (.t 21) (.k (.v (.one (.int .i64 200)))), some (19, false)⟩,
   ⟨some 23, .pick (.t 19) (.k (.v (.one (.bool true)))) (.t 22), none⟩,
   ⟨some 24, .mov (.t 23), none⟩,
   ⟨some 25, .mov (.t 2), some (24, false)⟩,
   ⟨some 26, .len (.t 25), some (24, false)⟩,
   ⟨some 27, .bin .gtr (.t 26) (.k (.v (.one (.int .i64 64)))), some (24, false)⟩,
   ⟨some 28, .pick (.t 24) (.k (.v (.one (.bool true)))) (.t 27), none⟩] [0, 1, 2, 3, 4, 5, 6, 7, 8, 9, 10, 11, 12] [])
 (.cond (.t 28)
  (.seq
  (.region [⟨some 6, .mov (.k (.v (.one (.bool false)))), none⟩] [0] [])
  .ret)
  .skip [0, 1, 2, 6]))
 (.seq
 (.seq
 (.region [⟨some 29, .mov (.t 0), none⟩,
   ⟨some 30, .len (.t 29), none⟩,
   ⟨some 31, .mov (.k (.v (.one (.int .i64 0)))), none⟩] [0, 1, 2] [])
 (.block 0
  (.loop [0, 1, 2, 29, 30, 31]
   (.seq
   (.region [⟨some 32, .bin .lss (.t 31) (.t 30), none⟩] [0] [])
   (.seq
   (.cond (.t 32)
    .skip
    (.exit 0) [0, 1, 2, 29, 30, 31])
   (.seq
   (.block 1
    (.seq
    (.region [⟨some 33, .iadr 2 (.t 29) (.t 31), none⟩,
      ⟨some 34, .load (some 2) (.t 33), none⟩,
      ⟨some 8, .new 33 [(.int .i64 0), (.bool false)], none⟩,
      ⟨none, .store 2 (.t 8) (.t 34), none⟩] [0, 1, 2, 3] [])
    (.seq
    (.region [⟨some 35, .fadr 0 (.t 8), none⟩,
      ⟨some 36, .load none (.t 35), none⟩,
      ⟨some 37, .call 31 [(.t 36)], none⟩,
      ⟨some 38, .not (.t 37), none⟩] [0, 1, 2, 3] [])
    (.cond (.t 38)
     (.seq
     (.region [⟨some 6, .mov (.k (.v (.one (.bool false)))), none⟩] [0] [])
     .ret)
     .skip [0, 1, 2, 6, 29, 30, 31]))))
   (.region [⟨some 39, .bin .add (.t 31) (.k (.v (.one (.int .i64 1)))), none⟩,
     ⟨some 31, .mov (.t 39), none⟩] [0, 1] [])))))))
 (.seq
 (.seq
 (.region [⟨some 40, .mov (.t 1), none⟩,
   ⟨some 41, .len (.t 40), none⟩,
   ⟨some 42, .mov (.k (.v (.one (.int .i64 0)))), none⟩] [0, 1, 2] [])
 (.block 2
  (.loop [0, 1, 2, 40, 41, 42]
   (.seq
   (.region [⟨some 43, .bin .lss (.t 42) (.t 41), none⟩] [0] [])
   (.seq
   (.cond (.t 43)
    .skip
    (.exit 2) [0, 1, 2, 40, 41, 42])
   (.seq
   (.block 3
    (.seq
    (.region [⟨some 44, .iadr 4 (.t 40) (.t 42), none⟩,
      ⟨some 45, .load (some 4) (.t 44), none⟩,
      ⟨some 10, .new 35 [(.int .i64 0), (.int .i64 0), (.int .i64 0), (.int .i64 0)], none⟩,
      ⟨none, .store 4 (.t 10) (.t 45), none⟩] [0, 1, 2, 3] [])
    (.seq
    (.region [⟨some 46, .fadr 0 (.t 10), none⟩,
      ⟨some 47, .load none (.t 46), none⟩,
      ⟨some 48, .bin .lss (.t 47) (.k (.v (.one (.int .i64 0)))), none⟩,
      ⟨some 49, .mov (.t 48), none⟩,
      ⟨some 50, .fadr 0 (.t 10), some (49, false)⟩,
      ⟨some 51, .load none (.t 50), some (49, false)⟩,
      ⟨some 52, .mov (.t 0), some (49, false)⟩,
      ⟨some 53, .len (.t 52), some (49, false)⟩,
      ⟨some 54, .bin .geq (.t 51) (.t 53), some (49, false)⟩,
      ⟨some 55, .pick (.t 49) (.k (.v (.one (.bool true)))) (.t 54), none⟩,
      ⟨some 56, .mov (.t 55), none⟩,
      ⟨some 57, .fadr 1 (.t 10), some (56, false)⟩,
      ⟨some 58, .load none (.t 57), some (56, false)⟩,
      ⟨some 59, .bin .lss (.t 58) (.k (.v (.one (.int .i64 0)))), some (56, false)⟩,
      ⟨some 60, .pick (.t 56) (.k (.v (.one (.bool true)))) (.t 59), none⟩,
      ⟨some 61, .mov (.t 60), none⟩,
      ⟨some 62, .fadr 1 (.t 10), some (61, false)⟩,
      ⟨some 63, .load none (.t 62), some (61, false)⟩,
      ⟨some 64, .mov (.t 0), some (61, false)⟩,
      ⟨some 65, .len (.t 64), some (61, false)⟩,
      ⟨some 66, .bin .geq (.t 63) (.t 65), some (61, false)⟩,
      ⟨some 67, .pick (.t 61) (.k (.v (.one (.bool true)))) (.t 66), none⟩,
      ⟨some 68, .mov (.t 67), none⟩,
      ⟨some 69, .fadr 0 (.t 10), some (68, false)⟩,
      ⟨some 70, .load none (.t 69), some (68, false)⟩,
      ⟨some 71, .fadr 1 (.t 10), some (68, false)⟩,
      ⟨some 72, .load none (.t 71), some (68, false)⟩,
      ⟨some 73, .bin .eql (.t 70) (.t 72), some (68, false)⟩,
      ⟨some 74, .pick (.t 68) (.k (.v (.one (.bool true)))) (.t 73), none⟩,
      ⟨some 75, .mov (.t 74), none⟩,
      ⟨some 76, .fadr 2 (.t 10), some (75, false)⟩,
      ⟨some 77, .load none (.t 76), some (75, false)⟩,
      ⟨some 78, .call 31 [(.t 77)], some (75, false)⟩,
      ⟨some 79, .not (.t 78), some (75, false)⟩,
      ⟨some 80, .pick (.t 75) (.k (.v (.one (.bool true)))) (.t 79), none⟩,
      ⟨some 81, .mov (.t 80), none⟩,
      ⟨some 82, .fadr 3 (.t 10), some (81, false)⟩,
      ⟨some 83, .load none (.t 82), some (81, false)⟩,
      ⟨some 84, .bin .neq (.t 83) (.k (.v (.one (.int .i64 (-1))))), some (81, false)⟩,
      ⟨some 85, .mov (.t 84), some (81, false)⟩,
      ⟨some 86, .fadr 3 (.t 10), some (85, true)⟩,
      ⟨some 87, .load none (.t 86), some (85, true)⟩,
      ⟨some 88, .call 31 [(.t 87)], some (85, true)⟩,
      ⟨some 89, .not (.t 88), some (85, true)⟩,
      ⟨some 90, .pick (.t 85) (.t 89) (.k (.v (.one (.bool false)))), some (81, false)⟩,
      ⟨some 91, .pick (.t 81) (.k (.v (.one (.bool true)))) (.t 90), none⟩] [0, 1, 2, 3, 4, 5, 6, 7, 8, 9, 10, 11, 12, 13, 14, 15, 16, 17, 18, 19, 20, 21, 22, 23, 24, 25, 26, 27, 28, 29, 30, 31, 32, 33, 34, 35, 36, 37, 38, 39, 40, 41, 42, 43, 44, 45] [])
    (.cond (.t 91)
     (.seq
     (.region [⟨some 6, .mov (.k (.v (.one (.bool false)))), none⟩] [0] [])
     .ret)
     .skip [0, 1, 2, 6, 40, 41, 42]))))
   (.region [⟨some 92, .bin .add (.t 42) (.k (.v (.one (.int .i64 1)))), none⟩,
     ⟨some 42, .mov (.t 92), none⟩] [0, 1] [])))))))
 (.seq
 (.region [⟨some 93, .mkm (.int .i64), none⟩,
   ⟨some 11, .mov (.t 93), none⟩] [0, 1] [])
 (.seq
 (.seq
 (.region [⟨some 94, .mov (.t 2), none⟩,
   ⟨some 95, .len (.t 94), none⟩,
   ⟨some 96, .mov (.k (.v (.one (.int .i64 0)))), none⟩] [0, 1, 2] [])
 (.block 4
  (.loop [0, 1, 11, 94, 95, 96]
   (.seq
   (.region [⟨some 97, .bin .lss (.t 96) (.t 95), none⟩] [0] [])
   (.seq
   (.cond (.t 97)
    .skip
    (.exit 4) [0, 1, 11, 94, 95, 96])
   (.seq
   (.block 5
    (.seq
    (.region [⟨some 98, .iadr 2 (.t 94) (.t 96), none⟩,
      ⟨some 99, .load (some 2) (.t 98), none⟩,
      ⟨some 13, .new 39 [(.int .i64 0), (.int .i64 0)], none⟩,
      ⟨none, .store 2 (.t 13) (.t 99), none⟩] [0, 1, 2, 3] [])
    (.seq
    (.seq
    (.region [⟨some 100, .fadr 0 (.t 13), none⟩,
      ⟨some 101, .load none (.t 100), none⟩,
      ⟨some 102, .bin .lss (.t 101) (.k (.v (.one (.int .i64 0)))), none⟩,
      ⟨some 103, .mov (.t 102), none⟩,
      ⟨some 104, .fadr 0 (.t 13), some (103, false)⟩,
      ⟨some 105, .load none (.t 104), some (103, false)⟩,
      ⟨some 106, .mov (.t 0), some (103, false)⟩,
      ⟨some 107, .len (.t 106), some (103, false)⟩,
      ⟨some 108, .bin .geq (.t 105) (.t 107), some (103, false)⟩,
      ⟨some 109, .pick (.t 103) (.k (.v (.one (.bool true)))) (.t 108), none⟩,
      ⟨some 110, .mov (.t 109), none⟩,
      ⟨some 111, .fadr 1 (.t 13), some (110, false)⟩,
      ⟨some 112, .load none (.t 111), some (110, false)⟩,
      ⟨some 113, .call 31 [(.t 112)], some (110, false)⟩,
      ⟨some 114, .not (.t 113), some (110, false)⟩,
      ⟨some 115, .pick (.t 110) (.k (.v (.one (.bool true)))) (.t 114), none⟩,
      ⟨some 116, .mov (.t 115), none⟩,
      ⟨some 117, .mov (.t 11), some (116, false)⟩,
      ⟨some 118, .fadr 0 (.t 13), some (116, false)⟩,
      ⟨some 119, .load none (.t 118), some (116, false)⟩,
      ⟨some 120, .look (.int .i64) (.one (.bool false)) false (.t 117) (.t 119), some (116, false)⟩,
      ⟨some 121, .pick (.t 116) (.k (.v (.one (.bool true)))) (.t 120), none⟩] [0, 1, 2, 3, 4, 5, 6, 7, 8, 9, 10, 11, 12, 13, 14, 15, 16, 17, 18, 19, 20, 21] [])
    (.cond (.t 121)
     (.seq
     (.region [⟨some 6, .mov (.k (.v (.one (.bool false)))), none⟩] [0] [])
     .ret)
     .skip [0, 1, 6, 11, 13, 94, 95, 96]))
    (.region [⟨some 122, .mov (.t 11), none⟩,
      ⟨some 123, .fadr 0 (.t 13), none⟩,
      ⟨some 124, .load none (.t 123), none⟩,
      ⟨none, .mupd (.int .i64) (.t 122) (.t 124) (.k (.v (.one (.bool true)))), none⟩] [0, 1, 2, 3] []))))
   (.region [⟨some 125, .bin .add (.t 96) (.k (.v (.one (.int .i64 1)))), none⟩,
     ⟨some 96, .mov (.t 125), none⟩] [0, 1] [])))))))
 (.seq
 (.region [⟨some 127, .mov (.t 0), none⟩,
   ⟨some 128, .len (.t 127), none⟩,
   ⟨some 129, .mov (.t 1), none⟩,
   ⟨some 130, .call 32 [(.t 128), (.t 129)], none⟩,
   ⟨some 126, .mov (.t 130), none⟩,
   ⟨some 131, .ext 0 (.t 126), none⟩,
   ⟨some 132, .ext 1 (.t 126), none⟩,
   ⟨some 14, .mov (.t 131), none⟩,
   ⟨some 15, .mov (.t 132), none⟩] [0, 1, 2, 3, 4, 5, 6, 7, 8] [])
 (.seq
 (.region [⟨some 133, .mov (.t 15), none⟩,
   ⟨some 6, .mov (.t 133), none⟩] [0, 1] [])
 .ret))))))))⟩
theorem t22 : tell Try.prog Try.f22 [([0, 1, 2, 6], [], []), ([0, 1, 2, 29, 30, 31], [], []), ([0, 1, 2, 29, 30, 31], [], []), ([0, 1, 2, 6, 29, 30, 31], [], []), ([0, 1, 2, 40, 41, 42], [], []), ([0, 1, 2, 40, 41, 42], [], []), ([0, 1, 2, 6, 40, 41, 42], [], []), ([0, 1, 11, 94, 95, 96], [], []), ([0, 1, 11, 94, 95, 96], [], []), ([0, 1, 6, 11, 13, 94, 95, 96], [], [])] = some a22 := by kernel_rfl
theorem ok22 : FuncOk Try.prog 22 a22 := tell_ok Try.func22 t22

/-- railplan/railplanref30.CheckDelay -/
def a23 : AFunc := ⟨3, [6], none,
 (.seq
 (.region [⟨some 6, .mov (.k (.v (.one (.bool false)))), none⟩] [0] [])
 (.seq
 (.region [⟨some 18, .mov (.t 0), none⟩,
   ⟨some 19, .len (.t 18), none⟩,
   ⟨some 7, .mov (.t 19), none⟩] [0, 1, 2] [])
 (.seq
 (.seq
 (.region [⟨some 20, .mov (.t 7), none⟩,
   ⟨some 21, .bin .gtr (.t 20) (.k (.v (.one (.int .i64 64)))), none⟩,
   ⟨some 22, .mov (.t 21), none⟩,
   ⟨some 23, .mov (.t 1), some (22, false)⟩,
   ⟨some 24, .len (.t 23), some (22, false)⟩,
   ⟨some 25, .bin .gtr (.t 24) (.k (.v (.one (.int .i64 200)))), some (22, false)⟩,
   ⟨some 26, .pick (.t 22) (.k (.v (.one (.bool true)))) (.t 25), none⟩,
   ⟨some 27, .mov (.t 26), none⟩,
   ⟨some 28, .mov (.t 2), some (27, false)⟩,
   ⟨some 29, .len (.t 28), some (27, false)⟩,
   ⟨some 30, .bin .gtr (.t 29) (.k (.v (.one (.int .i64 64)))), some (27, false)⟩,
   ⟨some 31, .pick (.t 27) (.k (.v (.one (.bool true)))) (.t 30), none⟩] [0, 1, 2, 3, 4, 5, 6, 7, 8, 9, 10, 11] [])
 (.cond (.t 31)
  (.seq
  (.region [⟨some 6, .mov (.k (.v (.one (.bool false)))), none⟩] [0] [])
  .ret)
  .skip [0, 1, 2, 6, 7]))
 (.seq
 (.seq
 (.region [⟨some 32, .mov (.t 0), none⟩,
   ⟨some 33, .len (.t 32), none⟩,
   ⟨some 34, .mov (.k (.v (.one (.int .i64 0)))), none⟩] [0, 1, 2] [])
 (.block 0
  (.loop [1, 2, 7, 32, 33, 34]
   (.seq
   (.region [⟨some 35, .bin .lss (.t 34) (.t 33), none⟩] [0] [])
   (.seq
   (.cond (.t 35)
    .skip
    (.exit 0) [1, 2, 7, 32, 33, 34])
   (.seq
   (.block 1
    (.seq
    (.region [⟨some 36, .iadr 2 (.t 32) (.t 34), none⟩,
      ⟨some 37, .load (some 2) (.t 36), none⟩,
      ⟨some 9, .new 33 [(.int .i64 0), (.bool false)], none⟩,
      ⟨none, .store 2 (.t 9) (.t 37), none⟩] [0, 1, 2, 3] [])
    (.seq
    (.region [⟨some 38, .fadr 0 (.t 9), none⟩,
      ⟨some 39, .load none (.t 38), none⟩,
      ⟨some 40, .bin .lss (.t 39) (.k (.v (.one (.int .i64 0)))), none⟩,
      ⟨some 41, .mov (.t 40), none⟩,
      ⟨some 42, .fadr 0 (.t 9), some (41, false)⟩,
      ⟨some 43, .load none (.t 42), some (41, false)⟩,
      ⟨some 44, .bin .gtr (.t 43) (.k (.v (.one (.int .i64 4194304)))), some (41, false)⟩,
      ⟨some 45, .pick (.t 41) (.k (.v (.one (.bool true)))) (.t 44), none⟩] [0, 1, 2, 3, 4, 5, 6, 7] [])
    (.cond (.t 45)
     (.seq
     (.region [⟨some 6, .mov (.k (.v (.one (.bool false)))), none⟩] [0] [])
     .ret)
     .skip [1, 2, 6, 7, 32, 33, 34]))))
   (.region [⟨some 46, .bin .add (.t 34) (.k (.v (.one (.int .i64 1)))), none⟩,
     ⟨some 34, .mov (.t 46), none⟩] [0, 1] [])))))))
 (.seq
 (.seq
 (.region [⟨some 47, .mov (.t 1), none⟩,
   ⟨some 48, .len (.t 47), none⟩,
   ⟨some 49, .mov (.k (.v (.one (.int .i64 0)))), none⟩] [0, 1, 2] [])
 (.block 2
  (.loop [1, 2, 7, 47, 48, 49]
   (.seq
   (.region [⟨some 50, .bin .lss (.t 49) (.t 48), none⟩] [0] [])
   (.seq
   (.cond (.t 50)
    .skip
    (.exit 2) [1, 2, 7, 47, 48, 49])
   (.seq
   (.block 3
    (.seq
    (.region [⟨some 51, .iadr 4 (.t 47) (.t 49), none⟩,
      ⟨some 52, .load (some 4) (.t 51), none⟩,
      ⟨some 11, .new 35 [(.int .i64 0), (.int .i64 0), (.int .i64 0), (.int .i64 0)], none⟩,
      ⟨none, .store 4 (.t 11) (.t 52), none⟩] [0, 1, 2, 3] [])
    (.seq
    (.region [⟨some 53, .fadr 0 (.t 11), none⟩,
      ⟨some 54, .load none (.t 53), none⟩,
      ⟨some 55, .bin .lss (.t 54) (.k (.v (.one (.int .i64 0)))), none⟩,
      ⟨some 56, .mov (.t 55), none⟩,
      ⟨some 57, .fadr 0 (.t 11), some (56, false)⟩,
      ⟨some 58, .load none (.t 57), some (56, false)⟩,
      ⟨some 59, .mov (.t 7), some (56, false)⟩,
      ⟨some 60, .bin .geq (.t 58) (.t 59), some (56, false)⟩,
      ⟨some 61, .pick (.t 56) (.k (.v (.one (.bool true)))) (.t 60), none⟩,
      ⟨some 62, .mov (.t 61), none⟩,
      ⟨some 63, .fadr 1 (.t 11), some (62, false)⟩,
      ⟨some 64, .load none (.t 63), some (62, false)⟩,
      ⟨some 65, .bin .lss (.t 64) (.k (.v (.one (.int .i64 0)))), some (62, false)⟩,
      ⟨some 66, .pick (.t 62) (.k (.v (.one (.bool true)))) (.t 65), none⟩,
      ⟨some 67, .mov (.t 66), none⟩,
      ⟨some 68, .fadr 1 (.t 11), some (67, false)⟩,
      ⟨some 69, .load none (.t 68), some (67, false)⟩,
      ⟨some 70, .mov (.t 7), some (67, false)⟩,
      ⟨some 71, .bin .geq (.t 69) (.t 70), some (67, false)⟩,
      ⟨some 72, .pick (.t 67) (.k (.v (.one (.bool true)))) (.t 71), none⟩,
      ⟨some 73, .mov (.t 72), none⟩,
      ⟨some 74, .fadr 0 (.t 11), some (73, false)⟩,
      ⟨some 75, .load none (.t 74), some (73, false)⟩,
      ⟨some 76, .fadr 1 (.t 11), some (73, false)⟩,
      ⟨some 77, .load none (.t 76), some (73, false)⟩,
      ⟨some 78, .bin .eql (.t 75) (.t 77), some (73, false)⟩,
      ⟨some 79, .pick (.t 73) (.k (.v (.one (.bool true)))) (.t 78), none⟩,
      ⟨some 80, .mov (.t 79), none⟩,
      ⟨some 81, .fadr 2 (.t 11), some (80, false)⟩,
      ⟨some 82, .load none (.t 81), some (80, false)⟩,
      ⟨some 83, .bin .lss (.t 82) (.k (.v (.one (.int .i64 0)))), some (80, false)⟩,
      ⟨some 84, .pick (.t 80) (.k (.v (.one (.bool true)))) (.t 83), none⟩,
      ⟨some 85, .mov (.t 84), none⟩,
      ⟨some 86, .fadr 2 (.t 11), some (85, false)⟩,
      ⟨some 87, .load none (.t 86), some (85, false)⟩,
      ⟨some 88, .bin .gtr (.t 87) (.k (.v (.one (.int .i64 4194304)))), some (85, false)⟩,
      ⟨some 89, .pick (.t 85) (.k (.v (.one (.bool true)))) (.t 88), none⟩,
      ⟨some 90, .mov (.t 89), none⟩,
      ⟨some 91, .fadr 3 (.t 11), some (90, false)⟩,
      ⟨some 92, .load none (.t 91), some (90, false)⟩,
      ⟨some 93, .bin .lss (.t 92) (.k (.v (.one (.int .i64 (-1))))), some (90, false)⟩,
      ⟨some 94, .pick (.t 90) (.k (.v (.one (.bool true)))) (.t 93), none⟩,
      ⟨some 95, .mov (.t 94), none⟩,
      ⟨some 96, .fadr 3 (.t 11), some (95, false)⟩,
      ⟨some 97, .load none (.t 96), some (95, false)⟩,
      ⟨some 98, .bin .gtr (.t 97) (.k (.v (.one (.int .i64 4194304)))), some (95, false)⟩,
      ⟨some 99, .pick (.t 95) (.k (.v (.one (.bool true)))) (.t 98), none⟩] [0, 1, 2, 3, 4, 5, 6, 7, 8, 9, 10, 11, 12, 13, 14, 15, 16, 17, 18, 19, 20, 21, 22, 23, 24, 25, 26, 27, 28, 29, 30, 31, 32, 33, 34, 35, 36, 37, 38, 39, 40, 41, 42, 43, 44, 45, 46] [])
    (.cond (.t 99)
     (.seq
     (.region [⟨some 6, .mov (.k (.v (.one (.bool false)))), none⟩] [0] [])
     .ret)
     .skip [1, 2, 6, 7, 47, 48, 49]))))
   (.region [⟨some 100, .bin .add (.t 49) (.k (.v (.one (.int .i64 1)))), none⟩,
     ⟨some 49, .mov (.t 100), none⟩] [0, 1] [])))))))
 (.seq
 (.seq
 (.region [⟨some 101, .mov (.t 2), none⟩,
   ⟨some 102, .len (.t 101), none⟩,
   ⟨some 103, .mov (.k (.v (.one (.int .i64 0)))), none⟩] [0, 1, 2] [])
 (.block 4
  (.loop [1, 2, 7, 101, 102, 103]
   (.seq
   (.region [⟨some 104, .bin .lss (.t 103) (.t 102), none⟩] [0] [])
   (.seq
   (.cond (.t 104)
    .skip
    (.exit 4) [1, 2, 7, 101, 102, 103])
   (.seq
   (.block 5
    (.seq
    (.region [⟨some 105, .mov (.t 103), none⟩,
      ⟨some 106, .iadr 2 (.t 101) (.t 103), none⟩,
      ⟨some 107, .load (some 2) (.t 106), none⟩,
      ⟨some 13, .new 39 [(.int .i64 0), (.int .i64 0)], none⟩,
      ⟨some 12, .mov (.t 105), none⟩,
      ⟨none, .store 2 (.t 13) (.t 107), none⟩] [0, 1, 2, 3, 4, 5] [])
    (.seq
    (.seq
    (.region [⟨some 108, .fadr 0 (.t 13), none⟩,
      ⟨some 109, .load none (.t 108), none⟩,
      ⟨some 110, .bin .lss (.t 109) (.k (.v (.one (.int .i64 0)))), none⟩,
      ⟨some 111, .mov (.t 110), none⟩,
      ⟨some 112, .fadr 0 (.t 13), some (111, false)⟩,
      ⟨some 113, .load none (.t 112), some (111, false)⟩,
      ⟨some 114, .mov (.t 7), some (111, false)⟩,
      ⟨some 115, .bin .geq (.t 113) (.t 114), some (111, false)⟩,
      ⟨some 116, .pick (.t 111) (.k (.v (.one (.bool true)))) (.t 115), none⟩,
      ⟨some 117, .mov (.t 116), none⟩,
      ⟨some 118, .fadr 1 (.t 13), some (117, false)⟩,
      ⟨some 119, .load none (.t 118), some (117, false)⟩,
      ⟨some 120, .bin .lss (.t 119) (.k (.v (.one (.int .i64 0)))), some (117, false)⟩,
      ⟨some 121, .pick (.t 117) (.k (.v (.one (.bool true)))) (.t 120), none⟩,
      ⟨some 122, .mov (.t 121), none⟩,
      ⟨some 123, .fadr 1 (.t 13), some (122, false)⟩,
      ⟨some 124, .load none (.t 123), some (122, false)⟩,
      ⟨some 125, .bin .gtr (.t 124) (.k (.v (.one (.int .i64 4194304)))), some (122, false)⟩,
      ⟨some 126, .pick (.t 122) (.k (.v (.one (.bool true)))) (.t 125), none⟩] [0, 1, 2, 3, 4, 5, 6, 7, 8, 9, 10, 11, 12, 13, 14, 15, 16, 17, 18] [])
    (.cond (.t 126)
     (.seq
     (.region [⟨some 6, .mov (.k (.v (.one (.bool false)))), none⟩] [0] [])
     .ret)
     .skip [1, 2, 6, 7, 12, 13, 101, 102, 103]))
    (.seq
    (.region [⟨some 127, .mov (.t 2), none⟩,
      ⟨some 128, .mov (.t 12), none⟩,
      ⟨some 129, .slc 2 (.t 127) none (some (.t 128)), none⟩,
      ⟨some 130, .len (.t 129), none⟩,
      ⟨some 131, .mov (.k (.v (.one (.int .i64 0)))), none⟩] [0, 1, 2, 3, 4] [])
    (.block 6
     (.loop [1, 2, 7, 13, 101, 102, 103, 129, 130, 131]
      (.seq
      (.region [⟨some 132, .bin .lss (.t 131) (.t 130), none⟩] [0] [])
      (.seq
      (.cond (.t 132)
       .skip
       (.exit 6) [1, 2, 7, 13, 101, 102, 103, 129, 130, 131])
      (.seq
      (.block 7
       (.seq
       (.region [⟨some 133, .iadr 2 (.t 129) (.t 131), none⟩,
         ⟨some 134, .load (some 2) (.t 133), none⟩,
         ⟨some 15, .new 39 [(.int .i64 0), (.int .i64 0)], none⟩,
         ⟨none, .store 2 (.t 15) (.t 134), none⟩] [0, 1, 2, 3] [])
       (.seq
       (.region [⟨some 135, .fadr 0 (.t 15), none⟩,
         ⟨some 136, .load none (.t 135), none⟩,
         ⟨some 137, .fadr 0 (.t 13), none⟩,
         ⟨some 138, .load none (.t 137), none⟩,
         ⟨some 139, .bin .eql (.t 136) (.t 138), none⟩] [0, 1, 2, 3, 4] [])
       (.cond (.t 139)
        (.seq
        (.region [⟨some 6, .mov (.k (.v (.one (.bool false)))), none⟩] [0] [])
        .ret)
        .skip [1, 2, 6, 7, 13, 101, 102, 103, 129, 130, 131]))))
      (.region [⟨some 140, .bin .add (.t 131) (.k (.v (.one (.int .i64 1)))), none⟩,
        ⟨some 131, .mov (.t 140), none⟩] [0, 1] []))))))))))
   (.region [⟨some 141, .bin .add (.t 103) (.k (.v (.one (.int .i64 1)))), none⟩,
     ⟨some 103, .mov (.t 141), none⟩] [0, 1] [])))))))
 (.seq
 (.region [⟨some 143, .mov (.t 7), none⟩,
   ⟨some 144, .mov (.t 1), none⟩,
   ⟨some 145, .call 29 [(.t 143), (.t 144)], none⟩,
   ⟨some 142, .mov (.t 145), none⟩,
   ⟨some 146, .ext 0 (.t 142), none⟩,
   ⟨some 147, .ext 1 (.t 142), none⟩,
   ⟨some 16, .mov (.t 146), none⟩,
   ⟨some 17, .mov (.t 147), none⟩] [0, 1, 2, 3, 4, 5, 6, 7] [])
 (.seq
 (.region [⟨some 148, .mov (.t 17), none⟩,
   ⟨some 6, .mov (.t 148), none⟩] [0, 1] [])
 .ret))))))))⟩
theorem t23 : tell Try.prog Try.f23 [([0, 1, 2, 6, 7], [], []), ([1, 2, 7, 32, 33, 34], [], []), ([1, 2, 7, 32, 33, 34], [], []), ([1, 2, 6, 7, 32, 33, 34], [], []), ([1, 2, 7, 47, 48, 49], [], []), ([1, 2, 7, 47, 48, 49], [], []), ([1, 2, 6, 7, 47, 48, 49], [], []), ([1, 2, 7, 101, 102, 103], [], []), ([1, 2, 7, 101, 102, 103], [], []), ([1, 2, 6, 7, 12, 13, 101, 102, 103], [], []), ([1, 2, 7, 13, 101, 102, 103, 129, 130, 131], [], []), ([1, 2, 7, 13, 101, 102, 103, 129, 130, 131], [], []), ([1, 2, 6, 7, 13, 101, 102, 103, 129, 130, 131], [], [])] = some a23 := by kernel_rfl
theorem ok23 : FuncOk Try.prog 23 a23 := tell_ok Try.func23 t23

end Go.Proofs.Ythoicdnlcnppgaa.Fn
