/- Functions of the program, as the abstract machine's, and that they are. Conditions: none. -/
import Derived.Test.YtmflcoojlejafaaAmCo
import Derived.Test.YtmflcoojlejafaaProg
set_option linter.unusedVariables false
namespace Go.Proofs.Ytmflcoojlejafaa.Fn
open Go Go.Am
set_option maxRecDepth 100000
/-- (*railplan/yard.search).extend -/
def a27 : AFunc := ⟨1, [2], none,
 (.seq
 (.region [⟨some 2, .mov (.k (.v (.one (.bool false)))), none⟩] [0] [])
 (.seq
 (.seq
 (.region [⟨some 9, .mov (.t 0), none⟩,
   ⟨some 10, .nilchk (.t 9), none⟩,
   ⟨some 11, .fadr 2 (.t 10), none⟩,
   ⟨some 12, .load none (.t 11), none⟩,
   ⟨some 13, .len (.t 12), none⟩,
   ⟨some 14, .mov (.t 0), none⟩,
   ⟨some 15, .nilchk (.t 14), none⟩,
   ⟨some 16, .fadr 1 (.t 15), none⟩,
   ⟨some 17, .load none (.t 16), none⟩,
   ⟨some 18, .len (.t 17), none⟩,
   ⟨some 19, .bin .eql (.t 13) (.t 18), none⟩] [0, 1, 2, 3, 4, 5, 6, 7, 8, 9, 10] [])
 (.cond (.t 19)
  (.seq
  (.region [⟨some 2, .mov (.k (.v (.one (.bool true)))), none⟩] [0] [])
  .ret)
  .skip [0, 2]))
 (.seq
 (.region [⟨some 20, .mov (.t 0), none⟩,
   ⟨some 21, .nilchk (.t 20), none⟩,
   ⟨some 22, .fadr 1 (.t 21), none⟩,
   ⟨some 23, .load none (.t 22), none⟩,
   ⟨some 24, .mov (.t 0), none⟩,
   ⟨some 25, .nilchk (.t 24), none⟩,
   ⟨some 26, .fadr 2 (.t 25), none⟩,
   ⟨some 27, .load none (.t 26), none⟩,
   ⟨some 28, .len (.t 27), none⟩,
   ⟨some 29, .iadr 3 (.t 23) (.t 28), none⟩,
   ⟨some 30, .load (some 3) (.t 29), none⟩,
   ⟨some 3, .new 41 [(.bool false), (.int .i64 0), (.int .i64 0)], none⟩,
   ⟨none, .store 3 (.t 3) (.t 30), none⟩] [0, 1, 2, 3, 4, 5, 6, 7, 8, 9, 10, 11, 12] [])
 (.seq
 (.seq
 (.region [⟨some 31, .mov (.t 0), none⟩,
   ⟨some 32, .nilchk (.t 31), none⟩,
   ⟨some 33, .fadr 0 (.t 32), none⟩,
   ⟨some 34, .load none (.t 33), none⟩,
   ⟨some 35, .nilchk (.t 34), none⟩,
   ⟨some 36, .fadr 0 (.t 35), none⟩,
   ⟨some 37, .load none (.t 36), none⟩,
   ⟨some 38, .len (.t 37), none⟩,
   ⟨some 39, .mov (.k (.v (.one (.int .i64 0)))), none⟩] [0, 1, 2, 3, 4, 5, 6, 7, 8] [])
 (.block 0
  (.loop [0, 3, 38, 39]
   (.seq
   (.region [⟨some 40, .bin .lss (.t 39) (.t 38), none⟩] [0] [])
   (.seq
   (.cond (.t 40)
    .skip
    (.exit 0) [0, 3, 38, 39])
   (.seq
   (.block 1
    (.seq
    (.region [⟨some 41, .mov (.t 39), none⟩,
      ⟨some 4, .mov (.t 41), none⟩] [0, 1] [])
    (.seq
    (.seq
    (.region [⟨some 42, .mov (.t 0), none⟩,
      ⟨some 43, .nilchk (.t 42), none⟩,
      ⟨some 44, .fadr 3 (.t 43), none⟩,
      ⟨some 45, .load none (.t 44), none⟩,
      ⟨some 46, .bin .add (.t 45) (.k (.v (.one (.int .i64 1)))), none⟩,
      ⟨some 47, .nilchk (.t 42), none⟩,
      ⟨some 48, .fadr 3 (.t 47), none⟩,
      ⟨none, .store 1 (.t 48) (.t 46), none⟩] [0, 1, 2, 3, 4, 5, 6, 7] [])
    (.seq
    (.region [⟨some 49, .mov (.t 0), none⟩,
      ⟨some 50, .nilchk (.t 49), none⟩,
      ⟨some 51, .fadr 3 (.t 50), none⟩,
      ⟨some 52, .load none (.t 51), none⟩,
      ⟨some 53, .mov (.t 0), none⟩,
      ⟨some 54, .nilchk (.t 53), none⟩,
      ⟨some 55, .fadr 4 (.t 54), none⟩,
      ⟨some 56, .load none (.t 55), none⟩,
      ⟨some 57, .bin .gtr (.t 52) (.t 56), none⟩] [0, 1, 2, 3, 4, 5, 6, 7, 8] [])
    (.cond (.t 57)
     (.seq
     (.region [⟨some 2, .mov (.k (.v (.one (.bool false)))), none⟩] [0] [])
     .ret)
     .skip [0, 2, 3, 4, 38, 39])))
    (.seq
    (.region [⟨some 58, .mov (.t 0), none⟩,
      ⟨some 59, .nilchk (.t 58), none⟩,
      ⟨some 60, .fadr 0 (.t 59), none⟩,
      ⟨some 61, .load none (.t 60), none⟩,
      ⟨some 62, .nilchk (.t 61), none⟩,
      ⟨some 63, .fadr 1 (.t 62), none⟩,
      ⟨some 64, .load none (.t 63), none⟩,
      ⟨some 65, .mov (.t 4), none⟩,
      ⟨some 66, .iadr 1 (.t 64) (.t 65), none⟩,
      ⟨some 67, .load none (.t 66), none⟩,
      ⟨some 68, .mov (.t 0), none⟩,
      ⟨some 69, .nilchk (.t 68), none⟩,
      ⟨some 70, .fadr 0 (.t 69), none⟩,
      ⟨some 71, .load none (.t 70), none⟩,
      ⟨some 72, .nilchk (.t 71), none⟩,
      ⟨some 73, .fadr 2 (.t 72), none⟩,
      ⟨some 74, .load none (.t 73), none⟩,
      ⟨some 5, .mov (.t 67), none⟩,
      ⟨some 6, .mov (.t 74), none⟩] [0, 1, 2, 3, 4, 5, 6, 7, 8, 9, 10, 11, 12, 13, 14, 15, 16, 17, 18] [])
    (.seq
    (.seq
    (.region [⟨some 76, .mov (.t 0), none⟩,
      ⟨some 77, .nilchk (.t 76), none⟩,
      ⟨some 78, .fadr 0 (.t 77), none⟩,
      ⟨some 79, .load none (.t 78), none⟩,
      ⟨some 80, .mov (.t 4), none⟩,
      ⟨some 81, .load (some 3) (.t 3), none⟩,
      ⟨some 82, .call 30 [(.t 79), (.t 80), (.t 81)], none⟩,
      ⟨some 75, .mov (.t 82), none⟩,
      ⟨some 83, .ext 0 (.t 75), none⟩,
      ⟨some 84, .ext 1 (.t 75), none⟩,
      ⟨some 7, .mov (.t 83), none⟩,
      ⟨some 8, .mov (.t 84), none⟩] [0, 1, 2, 3, 4, 5, 6, 7, 8, 9, 10, 11] [])
    (.seq
    (.region [⟨some 85, .mov (.t 8), none⟩,
      ⟨some 86, .not (.t 85), none⟩] [0, 1] [])
    (.cond (.t 86)
     (.exit 1)
     .skip [0, 3, 4, 5, 6, 38, 39])))
    (.seq
    (.region [⟨some 87, .mov (.t 0), none⟩,
      ⟨some 88, .mov (.t 0), none⟩,
      ⟨some 89, .nilchk (.t 88), none⟩,
      ⟨some 90, .fadr 2 (.t 89), none⟩,
      ⟨some 91, .load none (.t 90), none⟩,
      ⟨some 92, .mov (.t 4), none⟩,
      ⟨some 93, .bsl 3 1 1 [(.int .i64 0)] [(0, 1, (.t 92))], none⟩,
      ⟨some 94, .app 3 1 8 (.t 91) (.t 93), none⟩,
      ⟨some 95, .nilchk (.t 87), none⟩,
      ⟨some 96, .fadr 2 (.t 95), none⟩,
      ⟨none, .store 1 (.t 96) (.t 94), none⟩] [0, 1, 2, 3, 4, 5, 6, 7, 8, 9, 10] [])
    (.seq
    (.seq
    (.region [⟨some 97, .mov (.t 0), none⟩,
      ⟨some 98, .call 27 [(.t 97)], none⟩] [0, 1] [])
    (.cond (.t 98)
     (.seq
     (.region [⟨some 2, .mov (.k (.v (.one (.bool true)))), none⟩] [0] [])
     .ret)
     .skip [0, 2, 3, 4, 5, 6, 38, 39]))
    (.seq
    (.seq
    (.region [⟨some 99, .mov (.t 0), none⟩,
      ⟨some 100, .nilchk (.t 99), none⟩,
      ⟨some 101, .fadr 3 (.t 100), none⟩,
      ⟨some 102, .load none (.t 101), none⟩,
      ⟨some 103, .mov (.t 0), none⟩,
      ⟨some 104, .nilchk (.t 103), none⟩,
      ⟨some 105, .fadr 4 (.t 104), none⟩,
      ⟨some 106, .load none (.t 105), none⟩,
      ⟨some 107, .bin .gtr (.t 102) (.t 106), none⟩] [0, 1, 2, 3, 4, 5, 6, 7, 8] [])
    (.cond (.t 107)
     (.seq
     (.region [⟨some 2, .mov (.k (.v (.one (.bool false)))), none⟩] [0] [])
     .ret)
     .skip [0, 2, 3, 4, 5, 6, 38, 39]))
    (.seq
    (.region [⟨some 108, .mov (.t 0), none⟩,
      ⟨some 109, .mov (.t 0), none⟩,
      ⟨some 110, .nilchk (.t 109), none⟩,
      ⟨some 111, .fadr 2 (.t 110), none⟩,
      ⟨some 112, .load none (.t 111), none⟩,
      ⟨some 113, .mov (.t 0), none⟩,
      ⟨some 114, .nilchk (.t 113), none⟩,
      ⟨some 115, .fadr 2 (.t 114), none⟩,
      ⟨some 116, .load none (.t 115), none⟩,
      ⟨some 117, .len (.t 116), none⟩,
      ⟨some 118, .bin .sub (.t 117) (.k (.v (.one (.int .i64 1)))), none⟩,
      ⟨some 119, .slc 1 (.t 112) none (some (.t 118)), none⟩,
      ⟨some 120, .nilchk (.t 108), none⟩,
      ⟨some 121, .fadr 2 (.t 120), none⟩,
      ⟨none, .store 1 (.t 121) (.t 119), none⟩] [0, 1, 2, 3, 4, 5, 6, 7, 8, 9, 10, 11, 12, 13, 14] [])
    (.region [⟨some 122, .mov (.t 0), none⟩,
      ⟨some 123, .nilchk (.t 122), none⟩,
      ⟨some 124, .fadr 0 (.t 123), none⟩,
      ⟨some 125, .load none (.t 124), none⟩,
      ⟨some 126, .nilchk (.t 125), none⟩,
      ⟨some 127, .fadr 1 (.t 126), none⟩,
      ⟨some 128, .load none (.t 127), none⟩,
      ⟨some 129, .mov (.t 4), none⟩,
      ⟨some 130, .mov (.t 0), none⟩,
      ⟨some 131, .nilchk (.t 130), none⟩,
      ⟨some 132, .fadr 0 (.t 131), none⟩,
      ⟨some 133, .load none (.t 132), none⟩,
      ⟨some 134, .mov (.t 5), none⟩,
      ⟨some 135, .mov (.t 6), none⟩,
      ⟨some 136, .iadr 1 (.t 128) (.t 129), none⟩,
      ⟨none, .store 1 (.t 136) (.t 134), none⟩,
      ⟨some 137, .nilchk (.t 133), none⟩,
      ⟨some 138, .fadr 2 (.t 137), none⟩,
      ⟨none, .store 1 (.t 138) (.t 135), none⟩] [0, 1, 2, 3, 4, 5, 6, 7, 8, 9, 10, 11, 12, 13, 14, 15, 16, 17, 18] []))))))))))
   (.region [⟨some 139, .bin .add (.t 39) (.k (.v (.one (.int .i64 1)))), none⟩,
     ⟨some 39, .mov (.t 139), none⟩] [0, 1] [])))))))
 (.seq
 (.region [⟨some 2, .mov (.k (.v (.one (.bool false)))), none⟩] [0] [])
 .ret)))))⟩
theorem t27 : tell Try.prog Try.f27 [([0, 1, 2, 3, 4, 5, 6, 7, 8, 9, 10], [], [0, 1, 3, 7, 15, 0, 32, 96, 224, 480, 1023]), ([0, 2], [], []), ([0, 1, 2, 3, 4, 5, 6, 7, 8, 9, 10, 11, 12], [], [0, 1, 3, 7, 0, 16, 48, 112, 240, 511, 1023, 0, 4095]), ([0, 3, 38, 39], [], []), ([0, 3, 38, 39], [], []), ([0, 1, 2, 3, 4, 5, 6, 7, 8], [], [0, 1, 3, 7, 0, 16, 48, 112, 255]), ([0, 2, 3, 4, 38, 39], [], []), ([0, 1, 2, 3, 4, 5, 6, 7, 8, 9, 10, 11, 12, 13, 14, 15, 16, 17, 18], [], [0, 1, 3, 7, 15, 31, 63, 0, 255, 511, 0, 1024, 3072, 7168, 15360, 31744, 64512, 1023, 262143]), ([0, 1, 2, 3, 4, 5, 6, 7, 8, 9, 10, 11], [], [0, 1, 3, 7, 0, 0, 63, 127, 255, 255, 511, 2047]), ([0, 3, 4, 5, 6, 38, 39], [], []), ([0, 2, 3, 4, 5, 6, 38, 39], [], []), ([0, 1, 2, 3, 4, 5, 6, 7, 8], [], [0, 1, 3, 7, 0, 16, 48, 112, 255]), ([0, 2, 3, 4, 5, 6, 38, 39], [], []), ([0, 1, 2, 3, 4, 5, 6, 7, 8, 9, 10, 11, 12, 13, 14], [], [0, 0, 2, 6, 14, 0, 32, 96, 224, 480, 992, 2046, 4095, 8191, 16383]), ([0, 1, 2, 3, 4, 5, 6, 7, 8, 9, 10, 11, 12, 13, 14, 15, 16, 17, 18], [], [0, 1, 3, 7, 15, 31, 63, 0, 0, 256, 768, 1792, 0, 0, 8191, 24575, 65535, 131071, 262143])] = some a27 := by kernel_rfl
theorem ok27 : FuncOk Try.prog 27 a27 := tell_ok Try.func27 t27

/-- (*railplan/yard.yard).do -/
def a30 : AFunc := ⟨3, [6, 7], none,
 (.seq
 (.region [⟨some 5, .box 41 3 (.t 2), none⟩,
   ⟨some 6, .mov (.k (.v (.one (.int .i64 0)))), none⟩,
   ⟨some 7, .mov (.k (.v (.one (.bool false)))), none⟩] [0, 1, 2] [])
 (.seq
 (.seq
 (.region [⟨some 8, .fadr 0 (.t 5), none⟩,
   ⟨some 9, .load none (.t 8), none⟩] [0, 1] [])
 (.cond (.t 9)
  (.seq
  (.region [⟨some 10, .mov (.t 0), none⟩,
    ⟨some 11, .mov (.t 1), none⟩,
    ⟨some 12, .load (some 3) (.t 5), none⟩,
    ⟨some 13, .call 32 [(.t 10), (.t 11), (.t 12)], none⟩,
    ⟨some 14, .ext 0 (.t 13), none⟩,
    ⟨some 15, .ext 1 (.t 13), none⟩,
    ⟨some 6, .mov (.t 14), none⟩,
    ⟨some 7, .mov (.t 15), none⟩] [0, 1, 2, 3, 4, 5, 6, 7] [])
  .ret)
  .skip [0, 1, 5, 6, 7]))
 (.seq
 (.region [⟨some 16, .mov (.t 0), none⟩,
   ⟨some 17, .mov (.t 1), none⟩,
   ⟨some 18, .load (some 3) (.t 5), none⟩,
   ⟨some 19, .call 33 [(.t 16), (.t 17), (.t 18)], none⟩,
   ⟨some 20, .ext 0 (.t 19), none⟩,
   ⟨some 21, .ext 1 (.t 19), none⟩,
   ⟨some 6, .mov (.t 20), none⟩,
   ⟨some 7, .mov (.t 21), none⟩] [0, 1, 2, 3, 4, 5, 6, 7] [])
 .ret)))⟩
theorem t30 : tell Try.prog Try.f30 [([0, 1, 5, 6, 7], [], [])] = some a30 := by kernel_rfl
theorem ok30 : FuncOk Try.prog 30 a30 := tell_ok Try.func30 t30

/-- (*railplan/yard.yard).enter -/
def a32 : AFunc := ⟨3, [6, 7], none,
 (.seq
 (.region [⟨some 5, .box 41 3 (.t 2), none⟩,
   ⟨some 6, .mov (.k (.v (.one (.int .i64 0)))), none⟩,
   ⟨some 7, .mov (.k (.v (.one (.bool false)))), none⟩] [0, 1, 2] [])
 (.seq
 (.region [⟨some 11, .fadr 2 (.t 5), none⟩,
   ⟨some 12, .load none (.t 11), none⟩,
   ⟨some 8, .mov (.t 12), none⟩] [0, 1, 2] [])
 (.seq
 (.seq
 (.region [⟨some 13, .mov (.t 0), none⟩,
   ⟨some 14, .nilchk (.t 13), none⟩,
   ⟨some 15, .fadr 1 (.t 14), none⟩,
   ⟨some 16, .load none (.t 15), none⟩,
   ⟨some 17, .mov (.t 1), none⟩,
   ⟨some 18, .iadr 1 (.t 16) (.t 17), none⟩,
   ⟨some 19, .load none (.t 18), none⟩,
   ⟨some 20, .len (.t 19), none⟩,
   ⟨some 21, .mov (.k (.v (.one (.int .i64 0)))), none⟩] [0, 1, 2, 3, 4, 5, 6, 7, 8] [])
 (.block 0
  (.loop [0, 1, 5, 8, 19, 20, 21]
   (.seq
   (.region [⟨some 22, .bin .lss (.t 21) (.t 20), none⟩] [0] [])
   (.seq
   (.cond (.t 22)
    .skip
    (.exit 0) [0, 1, 5, 8, 19, 20, 21])
   (.seq
   (.block 1
    (.seq
    (.region [⟨some 23, .iadr 3 (.t 19) (.t 21), none⟩,
      ⟨some 24, .load (some 3) (.t 23), none⟩,
      ⟨some 10, .new 77 [(.int .i64 0), (.int .i64 0), (.int .i64 0)], none⟩,
      ⟨none, .store 3 (.t 10) (.t 24), none⟩] [0, 1, 2, 3] [])
    (.region [⟨some 25, .mov (.t 8), none⟩,
      ⟨some 26, .fadr 2 (.t 10), none⟩,
      ⟨some 27, .load none (.t 26), none⟩,
      ⟨some 28, .bin .add (.t 25) (.t 27), none⟩,
      ⟨some 8, .mov (.t 28), none⟩] [0, 1, 2, 3, 4] [])))
   (.region [⟨some 29, .bin .add (.t 21) (.k (.v (.one (.int .i64 1)))), none⟩,
     ⟨some 21, .mov (.t 29), none⟩] [0, 1] [])))))))
 (.seq
 (.seq
 (.region [⟨some 30, .mov (.t 8), none⟩,
   ⟨some 31, .mov (.t 0), none⟩,
   ⟨some 32, .nilchk (.t 31), none⟩,
   ⟨some 33, .fadr 0 (.t 32), none⟩,
   ⟨some 34, .load none (.t 33), none⟩,
   ⟨some 35, .mov (.t 1), none⟩,
   ⟨some 36, .iadr 2 (.t 34) (.t 35), none⟩,
   ⟨some 37, .fadr 0 (.t 36), none⟩,
   ⟨some 38, .load none (.t 37), none⟩,
   ⟨some 39, .bin .gtr (.t 30) (.t 38), none⟩] [0, 1, 2, 3, 4, 5, 6, 7, 8, 9] [])
 (.cond (.t 39)
  (.seq
  (.region [⟨some 6, .mov (.k (.v (.one (.int .i64 0)))), none⟩,
    ⟨some 7, .mov (.k (.v (.one (.bool false)))), none⟩] [0, 1] [])
  .ret)
  .skip [0, 1, 5, 6, 7]))
 (.seq
 (.region [⟨some 40, .mov (.t 0), none⟩,
   ⟨some 41, .nilchk (.t 40), none⟩,
   ⟨some 42, .fadr 1 (.t 41), none⟩,
   ⟨some 43, .load none (.t 42), none⟩,
   ⟨some 44, .mov (.t 1), none⟩,
   ⟨some 45, .mov (.t 0), none⟩,
   ⟨some 46, .nilchk (.t 45), none⟩,
   ⟨some 47, .fadr 1 (.t 46), none⟩,
   ⟨some 48, .load none (.t 47), none⟩,
   ⟨some 49, .mov (.t 1), none⟩,
   ⟨some 50, .iadr 1 (.t 48) (.t 49), none⟩,
   ⟨some 51, .load none (.t 50), none⟩,
   ⟨some 52, .mov (.t 0), none⟩,
   ⟨some 53, .nilchk (.t 52), none⟩,
   ⟨some 54, .fadr 2 (.t 53), none⟩,
   ⟨some 55, .load none (.t 54), none⟩,
   ⟨some 56, .fadr 1 (.t 5), none⟩,
   ⟨some 57, .load none (.t 56), none⟩,
   ⟨some 58, .fadr 2 (.t 5), none⟩,
   ⟨some 59, .load none (.t 58), none⟩,
   ⟨some 60, .build [(.int .i64 0), (.int .i64 0), (.int .i64 0)] [(0, 1, (.t 55)), (1, 1, (.t 57)), (2, 1, (.t 59))], none⟩,
   ⟨some 61, .bsl 77 3 1 [(.int .i64 0), (.int .i64 0), (.int .i64 0)] [(0, 3, (.t 60))], none⟩,
   ⟨some 62, .app 77 3 24 (.t 51) (.t 61), none⟩,
   ⟨some 63, .iadr 1 (.t 43) (.t 44), none⟩,
   ⟨none, .store 1 (.t 63) (.t 62), none⟩] [0, 1, 2, 3, 4, 5, 6, 7, 8, 9, 10, 11, 12, 13, 14, 15, 16, 17, 18, 19, 20, 21, 22, 23, 24] [(22, [3])])
 (.seq
 (.region [⟨some 64, .mov (.t 0), none⟩,
   ⟨some 65, .nilchk (.t 64), none⟩,
   ⟨some 66, .fadr 2 (.t 65), none⟩,
   ⟨some 67, .load none (.t 66), none⟩,
   ⟨some 68, .bin .add (.t 67) (.k (.v (.one (.int .i64 1)))), none⟩,
   ⟨some 69, .nilchk (.t 64), none⟩,
   ⟨some 70, .fadr 2 (.t 69), none⟩,
   ⟨none, .store 1 (.t 70) (.t 68), none⟩] [0, 1, 2, 3, 4, 5, 6, 7] [])
 (.seq
 (.region [⟨some 71, .mov (.t 0), none⟩,
   ⟨some 72, .nilchk (.t 71), none⟩,
   ⟨some 73, .fadr 2 (.t 72), none⟩,
   ⟨some 74, .load none (.t 73), none⟩,
   ⟨some 75, .bin .sub (.t 74) (.k (.v (.one (.int .i64 1)))), none⟩,
   ⟨some 6, .mov (.t 75), none⟩,
   ⟨some 7, .mov (.k (.v (.one (.bool true)))), none⟩] [0, 1, 2, 3, 4, 5, 6] [])
 .ret)))))))⟩
theorem t32 : tell Try.prog Try.f32 [([0, 1, 5, 8, 19, 20, 21], [], []), ([0, 1, 5, 8, 19, 20, 21], [], []), ([0, 1, 5, 6, 7], [], []), ([0, 1, 2, 3, 4, 5, 6, 7, 8, 9, 10, 11, 12, 13, 14, 15, 16, 17, 18, 19, 20, 21, 22, 23, 24], [(22, [3])], [0, 1, 3, 7, 0, 0, 32, 96, 224, 0, 992, 2016, 0, 4096, 12288, 28672, 0, 65536, 0, 262144, 1044480, 2093056, 4194272, 8388607, 16777215])] = some a32 := by kernel_rfl
theorem ok32 : FuncOk Try.prog 32 a32 := tell_ok Try.func32 t32

/-- (*railplan/yard.yard).leave -/
def a33 : AFunc := ⟨3, [6, 7], none,
 (.seq
 (.region [⟨some 5, .box 41 3 (.t 2), none⟩,
   ⟨some 6, .mov (.k (.v (.one (.int .i64 0)))), none⟩,
   ⟨some 7, .mov (.k (.v (.one (.bool false)))), none⟩] [0, 1, 2] [])
 (.seq
 (.region [⟨some 11, .mov (.t 0), none⟩,
   ⟨some 12, .mov (.t 1), none⟩,
   ⟨some 13, .call 35 [(.t 11), (.t 12)], none⟩,
   ⟨some 8, .mov (.t 13), none⟩] [0, 1, 2, 3] [])
 (.seq
 (.seq
 (.region [⟨some 14, .mov (.t 8), none⟩,
   ⟨some 15, .bin .lss (.t 14) (.k (.v (.one (.int .i64 0)))), none⟩,
   ⟨some 16, .mov (.t 15), none⟩,
   ⟨some 17, .mov (.t 0), some (16, false)⟩,
   ⟨some 18, .nilchk (.t 17), some (16, false)⟩,
   ⟨some 19, .fadr 1 (.t 18), some (16, false)⟩,
   ⟨some 20, .load none (.t 19), some (16, false)⟩,
   ⟨some 21, .mov (.t 1), some (16, false)⟩,
   ⟨some 22, .iadr 1 (.t 20) (.t 21), some (16, false)⟩,
   ⟨some 23, .load none (.t 22), some (16, false)⟩,
   ⟨some 24, .mov (.t 8), some (16, false)⟩,
   ⟨some 25, .iadr 3 (.t 23) (.t 24), some (16, false)⟩,
   ⟨some 26, .fadr 1 (.t 25), some (16, false)⟩,
   ⟨some 27, .load none (.t 26), some (16, false)⟩,
   ⟨some 28, .fadr 1 (.t 5), some (16, false)⟩,
   ⟨some 29, .load none (.t 28), some (16, false)⟩,
   ⟨some 30, .bin .neq (.t 27) (.t 29), some (16, false)⟩,
   ⟨some 31, .pick (.t 16) (.k (.v (.one (.bool true)))) (.t 30), none⟩] [0, 1, 2, 3, 4, 5, 6, 7, 8, 9, 10, 11, 12, 13, 14, 15, 16, 17] [])
 (.cond (.t 31)
  (.seq
  (.region [⟨some 6, .mov (.k (.v (.one (.int .i64 0)))), none⟩,
    ⟨some 7, .mov (.k (.v (.one (.bool false)))), none⟩] [0, 1] [])
  .ret)
  .skip [0, 1, 6, 7, 8]))
 (.seq
 (.region [⟨some 32, .mov (.t 0), none⟩,
   ⟨some 33, .nilchk (.t 32), none⟩,
   ⟨some 34, .fadr 1 (.t 33), none⟩,
   ⟨some 35, .load none (.t 34), none⟩,
   ⟨some 36, .mov (.t 1), none⟩,
   ⟨some 37, .iadr 1 (.t 35) (.t 36), none⟩,
   ⟨some 38, .load none (.t 37), none⟩,
   ⟨some 39, .mov (.t 8), none⟩,
   ⟨some 40, .iadr 3 (.t 38) (.t 39), none⟩,
   ⟨some 41, .fadr 0 (.t 40), none⟩,
   ⟨some 42, .load none (.t 41), none⟩,
   ⟨some 9, .mov (.t 42), none⟩] [0, 1, 2, 3, 4, 5, 6, 7, 8, 9, 10, 11] [])
 (.seq
 (.region [⟨some 43, .mov (.t 0), none⟩,
   ⟨some 44, .nilchk (.t 43), none⟩,
   ⟨some 45, .fadr 1 (.t 44), none⟩,
   ⟨some 46, .load none (.t 45), none⟩,
   ⟨some 47, .mov (.t 1), none⟩,
   ⟨some 48, .iadr 1 (.t 46) (.t 47), none⟩,
   ⟨some 49, .load none (.t 48), none⟩,
   ⟨some 50, .mov (.t 8), none⟩,
   ⟨some 51, .slc 3 (.t 49) none (some (.t 50)), none⟩,
   ⟨some 52, .app 77 3 24 (.k (.v (.one .nils))) (.t 51), none⟩,
   ⟨some 10, .mov (.t 52), none⟩] [0, 1, 2, 3, 4, 5, 6, 7, 8, 9, 10] [])
 (.seq
 (.region [⟨some 53, .mov (.t 0), none⟩,
   ⟨some 54, .nilchk (.t 53), none⟩,
   ⟨some 55, .fadr 1 (.t 54), none⟩,
   ⟨some 56, .load none (.t 55), none⟩,
   ⟨some 57, .mov (.t 1), none⟩,
   ⟨some 58, .mov (.t 10), none⟩,
   ⟨some 59, .mov (.t 0), none⟩,
   ⟨some 60, .nilchk (.t 59), none⟩,
   ⟨some 61, .fadr 1 (.t 60), none⟩,
   ⟨some 62, .load none (.t 61), none⟩,
   ⟨some 63, .mov (.t 1), none⟩,
   ⟨some 64, .iadr 1 (.t 62) (.t 63), none⟩,
   ⟨some 65, .load none (.t 64), none⟩,
   ⟨some 66, .mov (.t 8), none⟩,
   ⟨some 67, .bin .add (.t 66) (.k (.v (.one (.int .i64 1)))), none⟩,
   ⟨some 68, .slc 3 (.t 65) (some (.t 67)) none, none⟩,
   ⟨some 69, .app 77 3 24 (.t 58) (.t 68), none⟩,
   ⟨some 70, .iadr 1 (.t 56) (.t 57), none⟩,
   ⟨none, .store 1 (.t 70) (.t 69), none⟩] [0, 1, 2, 3, 4, 5, 6, 7, 8, 9, 10, 11, 12, 13, 14, 15, 16, 17, 18] [(16, [3])])
 (.seq
 (.region [⟨some 71, .mov (.t 9), none⟩,
   ⟨some 6, .mov (.t 71), none⟩,
   ⟨some 7, .mov (.k (.v (.one (.bool true)))), none⟩] [0, 1, 2] [])
 .ret)))))))⟩
theorem t33 : tell Try.prog Try.f33 [([0, 1, 2, 3, 4, 5, 6, 7, 8, 9, 10, 11, 12, 13, 14, 15, 16, 17], [], [0, 1, 3, 7, 15, 31, 63, 7, 255, 511, 7, 2047, 4095, 8191, 7, 16391, 65535, 131071]), ([0, 1, 6, 7, 8], [], []), ([0, 1, 2, 3, 4, 5, 6, 7, 8, 9, 10, 11, 12, 13, 14, 15, 16, 17, 18], [(16, [3])], [0, 1, 3, 7, 0, 0, 0, 64, 192, 448, 0, 1984, 4032, 0, 8192, 32704, 65504, 131071, 262143])] = some a33 := by kernel_rfl
theorem ok33 : FuncOk Try.prog 33 a33 := tell_ok Try.func33 t33

/-- (*railplan/yard.yard).next -/
def a35 : AFunc := ⟨2, [4], none,
 (.seq
 (.region [⟨some 4, .mov (.k (.v (.one (.int .i64 0)))), none⟩] [0] [])
 (.seq
 (.seq
 (.region [⟨some 5, .mov (.t 0), none⟩,
   ⟨some 6, .nilchk (.t 5), none⟩,
   ⟨some 7, .fadr 0 (.t 6), none⟩,
   ⟨some 8, .load none (.t 7), none⟩,
   ⟨some 9, .mov (.t 1), none⟩,
   ⟨some 10, .iadr 2 (.t 8) (.t 9), none⟩,
   ⟨some 11, .fadr 1 (.t 10), none⟩,
   ⟨some 12, .load none (.t 11), none⟩,
   ⟨some 13, .mov (.t 12), none⟩,
   ⟨some 14, .mov (.t 0), some (13, true)⟩,
   ⟨some 15, .nilchk (.t 14), some (13, true)⟩,
   ⟨some 16, .fadr 1 (.t 15), some (13, true)⟩,
   ⟨some 17, .load none (.t 16), some (13, true)⟩,
   ⟨some 18, .mov (.t 1), some (13, true)⟩,
   ⟨some 19, .iadr 1 (.t 17) (.t 18), some (13, true)⟩,
   ⟨some 20, .load none (.t 19), some (13, true)⟩,
   ⟨some 21, .len (.t 20), some (13, true)⟩,
   ⟨some 22, .bin .gtr (.t 21) (.k (.v (.one (.int .i64 0)))), some (13, true)⟩,
   ⟨some 23, .pick (.t 13) (.t 22) (.k (.v (.one (.bool false)))), none⟩] [0, 1, 2, 3, 4, 5, 6, 7, 8, 9, 10, 11, 12, 13, 14, 15, 16, 17, 18] [])
 (.cond (.t 23)
  (.seq
  (.region [⟨some 4, .mov (.k (.v (.one (.int .i64 0)))), none⟩] [0] [])
  .ret)
  .skip [0, 1, 4]))
 (.seq
 (.region [⟨some 24, .mov (.t 0), none⟩,
   ⟨some 25, .nilchk (.t 24), none⟩,
   ⟨some 26, .fadr 1 (.t 25), none⟩,
   ⟨some 27, .load none (.t 26), none⟩,
   ⟨some 28, .mov (.t 1), none⟩,
   ⟨some 29, .iadr 1 (.t 27) (.t 28), none⟩,
   ⟨some 30, .load none (.t 29), none⟩,
   ⟨some 31, .len (.t 30), none⟩,
   ⟨some 32, .bin .sub (.t 31) (.k (.v (.one (.int .i64 1)))), none⟩,
   ⟨some 4, .mov (.t 32), none⟩] [0, 1, 2, 3, 4, 5, 6, 7, 8, 9] [])
 .ret)))⟩
theorem t35 : tell Try.prog Try.f35 [([0, 1, 4], [], [])] = some a35 := by kernel_rfl
theorem ok35 : FuncOk Try.prog 35 a35 := tell_ok Try.func35 t35

end Go.Proofs.Ytmflcoojlejafaa.Fn
