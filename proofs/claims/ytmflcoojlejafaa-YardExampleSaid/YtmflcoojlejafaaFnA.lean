/- Functions of the program, as the abstract machine's, and that they are. Conditions: none. -/
import Derived.Test.YtmflcoojlejafaaAmCo
import Derived.Test.YtmflcoojlejafaaProg
set_option linter.unusedVariables false
namespace Go.Proofs.Ytmflcoojlejafaa.Fn
open Go Go.Am
set_option maxRecDepth 100000
/-- railplan/railplanlaw29.YardExample -/
def a9 : AFunc := ⟨0, [0], none,
 (.seq
 (.region [⟨some 0, .mov (.k (.v (.one (.bool false)))), none⟩] [0] [])
 (.seq
 (.region [⟨some 10, .build [(.int .i64 0), (.bool false)] [(0, 1, (.k (.v (.one (.int .i64 20)))))], none⟩,
   ⟨some 11, .bsl 43 2 1 [(.int .i64 0), (.bool false)] [(0, 2, (.t 10))], none⟩,
   ⟨some 1, .mov (.t 11), none⟩] [0, 1, 2] [])
 (.seq
 (.region [⟨some 13, .mov (.t 1), none⟩,
   ⟨some 14, .call 24 [(.k (.v (.one (.int .i64 1)))), (.k (.v (.one (.int .i64 2))))], none⟩,
   ⟨some 15, .call 23 [(.t 13), (.t 14), (.k (.v (.one (.int .i64 10))))], none⟩,
   ⟨some 12, .mov (.t 15), none⟩,
   ⟨some 16, .ext 0 (.t 12), none⟩,
   ⟨some 17, .ext 1 (.t 12), none⟩,
   ⟨some 2, .mov (.t 16), none⟩,
   ⟨some 3, .mov (.t 17), none⟩] [0, 1, 2, 3, 4, 5, 6, 7] [])
 (.seq
 (.region [⟨some 19, .mov (.t 1), none⟩,
   ⟨some 20, .call 24 [(.k (.v (.one (.int .i64 1)))), (.k (.v (.one (.int .i64 2))))], none⟩,
   ⟨some 21, .call 14 [(.t 19), (.t 20), (.k (.v (.one (.int .i64 10))))], none⟩,
   ⟨some 18, .mov (.t 21), none⟩,
   ⟨some 22, .ext 0 (.t 18), none⟩,
   ⟨some 23, .ext 1 (.t 18), none⟩,
   ⟨some 24, .ext 2 (.t 18), none⟩,
   ⟨some 4, .mov (.t 22), none⟩,
   ⟨some 5, .mov (.t 23), none⟩,
   ⟨some 6, .mov (.t 24), none⟩] [0, 1, 2, 3, 4, 5, 6, 7, 8, 9] [])
 (.seq
 (.region [⟨some 25, .mov (.t 1), none⟩,
   ⟨some 26, .iadr 2 (.t 25) (.k (.v (.one (.int .i64 0)))), none⟩,
   ⟨some 27, .fadr 1 (.t 26), none⟩,
   ⟨none, .store 1 (.t 27) (.k (.v (.one (.bool true)))), none⟩] [0, 1, 2, 3] [])
 (.seq
 (.region [⟨some 29, .mov (.t 1), none⟩,
   ⟨some 30, .call 24 [(.k (.v (.one (.int .i64 1)))), (.k (.v (.one (.int .i64 2))))], none⟩,
   ⟨some 31, .call 14 [(.t 29), (.t 30), (.k (.v (.one (.int .i64 10))))], none⟩,
   ⟨some 28, .mov (.t 31), none⟩,
   ⟨some 32, .ext 0 (.t 28), none⟩,
   ⟨some 33, .ext 1 (.t 28), none⟩,
   ⟨some 34, .ext 2 (.t 28), none⟩,
   ⟨some 7, .mov (.t 32), none⟩,
   ⟨some 8, .mov (.t 33), none⟩,
   ⟨some 9, .mov (.t 34), none⟩] [0, 1, 2, 3, 4, 5, 6, 7, 8, 9] [])
 (.seq
 (.region [⟨some 35, .call 16 [], none⟩,
   ⟨some 36, .mov (.t 35), none⟩,
   ⟨some 37, .mov (.t 3), some (36, true)⟩,
   ⟨some 38, .bin .eql (.t 37) (.k (.v (.one (.int .i64 0)))), some (36, true)⟩,
   ⟨some 39, .pick (.t 36) (.t 38) (.k (.v (.one (.bool false)))), none⟩,
   ⟨some 40, .mov (.t 39), none⟩,
   ⟨some 41, .mov (.t 2), some (40, true)⟩,
   ⟨some 42, .bin .eql (.t 41) (.k (.v (.one (.int .i64 3)))), some (40, true)⟩,
   ⟨some 43, .pick (.t 40) (.t 42) (.k (.v (.one (.bool false)))), none⟩,
   ⟨some 44, .mov (.t 43), none⟩,
   ⟨some 45, .mov (.t 6), some (44, true)⟩,
   ⟨some 46, .bin .eql (.t 45) (.k (.v (.one (.int .i64 14)))), some (44, true)⟩,
   ⟨some 47, .pick (.t 44) (.t 46) (.k (.v (.one (.bool false)))), none⟩,
   ⟨some 48, .mov (.t 47), none⟩,
   ⟨some 49, .mov (.t 9), some (48, true)⟩,
   ⟨some 50, .bin .eql (.t 49) (.k (.v (.one (.int .i64 0)))), some (48, true)⟩,
   ⟨some 51, .pick (.t 48) (.t 50) (.k (.v (.one (.bool false)))), none⟩,
   ⟨some 52, .mov (.t 51), none⟩,
   ⟨some 53, .mov (.t 7), some (52, true)⟩,
   ⟨some 54, .len (.t 53), some (52, true)⟩,
   ⟨some 55, .bin .eql (.t 54) (.k (.v (.one (.int .i64 4)))), some (52, true)⟩,
   ⟨some 56, .pick (.t 52) (.t 55) (.k (.v (.one (.bool false)))), none⟩,
   ⟨some 0, .mov (.t 56), none⟩] [0, 1, 2, 3, 4, 5, 6, 7, 8, 9, 10, 11, 12, 13, 14, 15, 16, 17, 18, 19, 20, 21, 22] [])
 .ret)))))))⟩
theorem t9 : tell Try.prog Try.f9 [] = some a9 := by kernel_rfl
theorem ok9 : FuncOk Try.prog 9 a9 := tell_ok Try.func9 t9

/-- railplan/yard.Plan -/
def a14 : AFunc := ⟨3, [6, 7, 8], none,
 (.seq
 (.region [⟨some 6, .mov (.k (.v (.one .nils))), none⟩,
   ⟨some 7, .mov (.k (.v (.one (.int .i64 0)))), none⟩,
   ⟨some 8, .mov (.k (.v (.one (.int .i64 0)))), none⟩] [0, 1, 2] [])
 (.seq
 (.seq
 (.region [⟨some 11, .mov (.t 0), none⟩,
   ⟨some 12, .mov (.t 1), none⟩,
   ⟨some 13, .call 17 [(.t 11), (.t 12)], none⟩,
   ⟨some 14, .not (.t 13), none⟩] [0, 1, 2, 3] [])
 (.cond (.t 14)
  (.seq
  (.region [⟨some 6, .mov (.k (.v (.one .nils))), none⟩,
    ⟨some 7, .mov (.k (.v (.one (.int .i64 0)))), none⟩,
    ⟨some 8, .mov (.k (.v (.one (.int .i64 1)))), none⟩] [0, 1, 2] [])
  .ret)
  .skip [0, 1, 2, 6, 7, 8]))
 (.seq
 (.seq
 (.region [⟨some 15, .mov (.t 2), none⟩,
   ⟨some 16, .bin .lss (.t 15) (.k (.v (.one (.int .i64 1)))), none⟩,
   ⟨some 17, .mov (.t 16), none⟩,
   ⟨some 18, .mov (.t 2), some (17, false)⟩,
   ⟨some 19, .bin .gtr (.t 18) (.k (.v (.one (.int .i64 1048576)))), some (17, false)⟩,
   ⟨some 20, .pick (.t 17) (.k (.v (.one (.bool true)))) (.t 19), none⟩] [0, 1, 2, 3, 4, 5] [])
 (.cond (.t 20)
  (.seq
  (.region [⟨some 6, .mov (.k (.v (.one .nils))), none⟩,
    ⟨some 7, .mov (.k (.v (.one (.int .i64 0)))), none⟩,
    ⟨some 8, .mov (.k (.v (.one (.int .i64 4)))), none⟩] [0, 1, 2] [])
  .ret)
  .skip [0, 1, 2, 6, 7, 8]))
 (.seq
 (.region [⟨some 21, .mov (.t 0), none⟩,
   ⟨some 22, .mov (.t 0), none⟩,
   ⟨some 23, .len (.t 22), none⟩,
   ⟨some 24, .mks 74 1 24 [.nils] (.t 23) (.t 23), none⟩,
   ⟨some 25, .build [.nils, .nils, (.int .i64 0)] [(0, 1, (.t 21)), (1, 1, (.t 24))], none⟩,
   ⟨some 26, .box 57 3 (.t 25), none⟩,
   ⟨some 27, .mov (.t 1), none⟩,
   ⟨some 28, .mov (.t 2), none⟩,
   ⟨some 29, .build [.nilp, .nils, .nils, (.int .i64 0), (.int .i64 0)] [(0, 1, (.t 26)), (1, 1, (.t 27)), (4, 1, (.t 28))], none⟩,
   ⟨some 30, .box 59 5 (.t 29), none⟩,
   ⟨some 9, .mov (.t 30), none⟩] [0, 1, 2, 3, 4, 5, 6, 7, 8, 9, 10] [])
 (.seq
 (.region [⟨some 31, .mov (.t 9), none⟩,
   ⟨some 32, .call 27 [(.t 31)], none⟩,
   ⟨some 10, .mov (.t 32), none⟩] [0, 1, 2] [])
 (.seq
 (.block 0
  (.seq
  (.region [⟨some 34, .mov (.t 10), none⟩,
    ⟨some 33, .mov (.t 34), none⟩] [0, 1] [])
  (.cond (.t 33)
   (.seq
   (.region [⟨some 35, .mov (.t 9), none⟩,
     ⟨some 36, .nilchk (.t 35), none⟩,
     ⟨some 37, .fadr 2 (.t 36), none⟩,
     ⟨some 38, .load none (.t 37), none⟩,
     ⟨some 39, .mov (.t 9), none⟩,
     ⟨some 40, .nilchk (.t 39), none⟩,
     ⟨some 41, .fadr 3 (.t 40), none⟩,
     ⟨some 42, .load none (.t 41), none⟩,
     ⟨some 6, .mov (.t 38), none⟩,
     ⟨some 7, .mov (.t 42), none⟩,
     ⟨some 8, .mov (.k (.v (.one (.int .i64 0)))), none⟩] [0, 1, 2, 3, 4, 5, 6, 7, 8, 9, 10] [])
   .ret)
   (.seq
   (.region [⟨some 44, .mov (.t 9), none⟩,
     ⟨some 45, .nilchk (.t 44), none⟩,
     ⟨some 46, .fadr 3 (.t 45), none⟩,
     ⟨some 47, .load none (.t 46), none⟩,
     ⟨some 48, .mov (.t 2), none⟩,
     ⟨some 49, .bin .gtr (.t 47) (.t 48), none⟩,
     ⟨some 43, .mov (.t 49), none⟩] [0, 1, 2, 3, 4, 5, 6] [])
   (.cond (.t 43)
    (.seq
    (.region [⟨some 6, .mov (.k (.v (.one .nils))), none⟩,
      ⟨some 7, .mov (.k (.v (.one (.int .i64 0)))), none⟩,
      ⟨some 8, .mov (.k (.v (.one (.int .i64 15)))), none⟩] [0, 1, 2] [])
    .ret)
    .skip [6, 7, 8, 9])) [6, 7, 8, 9])))
 (.seq
 (.region [⟨some 50, .mov (.t 9), none⟩,
   ⟨some 51, .nilchk (.t 50), none⟩,
   ⟨some 52, .fadr 3 (.t 51), none⟩,
   ⟨some 53, .load none (.t 52), none⟩,
   ⟨some 6, .mov (.k (.v (.one .nils))), none⟩,
   ⟨some 7, .mov (.t 53), none⟩,
   ⟨some 8, .mov (.k (.v (.one (.int .i64 14)))), none⟩] [0, 1, 2, 3, 4, 5, 6] [])
 .ret)))))))⟩
theorem t14 : tell Try.prog Try.f14 [([0, 1, 2, 6, 7, 8], [], []), ([0, 1, 2, 6, 7, 8], [], []), ([6, 7, 8, 9], [], []), ([0, 1, 2, 3, 4, 5, 6, 7, 8, 9, 10], [], [0, 1, 3, 7, 0, 16, 48, 112, 15, 511, 1023]), ([6, 7, 8, 9], [], []), ([0, 1, 2, 3, 4, 5, 6], [], [0, 1, 3, 7, 0, 31, 63])] = some a14 := by kernel_rfl
theorem ok14 : FuncOk Try.prog 14 a14 := tell_ok Try.func14 t14

/-- railplan/railplanlaw29.awake -/
def a16 : AFunc := ⟨0, [0], none,
 (.seq
 (.region [⟨some 0, .mov (.k (.v (.one (.bool false)))), none⟩] [0] [])
 (.seq
 (.region [⟨some 7, .build [(.int .i64 0), (.bool false)] [(0, 1, (.k (.v (.one (.int .i64 20)))))], none⟩,
   ⟨some 8, .bsl 43 2 1 [(.int .i64 0), (.bool false)] [(0, 2, (.t 7))], none⟩,
   ⟨some 1, .mov (.t 8), none⟩] [0, 1, 2] [])
 (.seq
 (.region [⟨some 10, .mov (.t 1), none⟩,
   ⟨some 11, .call 24 [(.k (.v (.one (.int .i64 2)))), (.k (.v (.one (.int .i64 1))))], none⟩,
   ⟨some 12, .call 14 [(.t 10), (.t 11), (.k (.v (.one (.int .i64 10))))], none⟩,
   ⟨some 9, .mov (.t 12), none⟩,
   ⟨some 13, .ext 0 (.t 9), none⟩,
   ⟨some 14, .ext 1 (.t 9), none⟩,
   ⟨some 15, .ext 2 (.t 9), none⟩,
   ⟨some 2, .mov (.t 13), none⟩,
   ⟨some 3, .mov (.t 14), none⟩,
   ⟨some 4, .mov (.t 15), none⟩] [0, 1, 2, 3, 4, 5, 6, 7, 8, 9] [])
 (.seq
 (.region [⟨some 17, .mov (.t 1), none⟩,
   ⟨some 18, .call 24 [(.k (.v (.one (.int .i64 2)))), (.k (.v (.one (.int .i64 1))))], none⟩,
   ⟨some 19, .mov (.t 2), none⟩,
   ⟨some 20, .call 19 [(.t 17), (.t 18), (.t 19)], none⟩,
   ⟨some 16, .mov (.t 20), none⟩,
   ⟨some 21, .ext 0 (.t 16), none⟩,
   ⟨some 22, .ext 1 (.t 16), none⟩,
   ⟨some 5, .mov (.t 21), none⟩,
   ⟨some 6, .mov (.t 22), none⟩] [0, 1, 2, 3, 4, 5, 6, 7, 8] [])
 (.seq
 (.region [⟨some 23, .mov (.t 4), none⟩,
   ⟨some 24, .bin .eql (.t 23) (.k (.v (.one (.int .i64 0)))), none⟩,
   ⟨some 25, .mov (.t 24), none⟩,
   ⟨some 26, .mov (.t 3), some (25, true)⟩,
   ⟨some 27, .bin .eql (.t 26) (.k (.v (.one (.int .i64 4)))), some (25, true)⟩,
   ⟨some 28, .pick (.t 25) (.t 27) (.k (.v (.one (.bool false)))), none⟩,
   ⟨some 29, .mov (.t 28), none⟩,
   ⟨some 30, .mov (.t 2), some (29, true)⟩,
   ⟨some 31, .bsl 3 1 4 [(.int .i64 0)] [(0, 1, (.k (.v (.one (.int .i64 0))))), (1, 1, (.k (.v (.one (.int .i64 0))))), (2, 1, (.k (.v (.one (.int .i64 0))))), (3, 1, (.k (.v (.one (.int .i64 0)))))], some (29, true)⟩,
   ⟨some 32, .call 18 [(.t 30), (.t 31)], some (29, true)⟩,
   ⟨some 33, .pick (.t 29) (.t 32) (.k (.v (.one (.bool false)))), none⟩,
   ⟨some 34, .mov (.t 33), none⟩,
   ⟨some 35, .mov (.t 6), some (34, true)⟩,
   ⟨some 36, .pick (.t 34) (.t 35) (.k (.v (.one (.bool false)))), none⟩,
   ⟨some 37, .mov (.t 36), none⟩,
   ⟨some 38, .mov (.t 5), some (37, true)⟩,
   ⟨some 39, .bsl 3 1 4 [(.int .i64 0)] [(0, 1, (.k (.v (.one (.int .i64 0))))), (1, 1, (.k (.v (.one (.int .i64 1))))), (2, 1, (.k (.v (.one (.int .i64 1))))), (3, 1, (.k (.v (.one (.int .i64 0)))))], some (37, true)⟩,
   ⟨some 40, .call 18 [(.t 38), (.t 39)], some (37, true)⟩,
   ⟨some 41, .pick (.t 37) (.t 40) (.k (.v (.one (.bool false)))), none⟩,
   ⟨some 0, .mov (.t 41), none⟩] [0, 1, 2, 3, 4, 5, 6, 7, 8, 9, 10, 11, 12, 13, 14, 15, 16, 17, 18, 19] [])
 .ret)))))⟩
theorem t16 : tell Try.prog Try.f16 [] = some a16 := by kernel_rfl
theorem ok16 : FuncOk Try.prog 16 a16 := tell_ok Try.func16 t16

/-- railplan/yard.Check -/
def a17 : AFunc := ⟨2, [4], none,
 (.seq
 (.region [⟨some 4, .mov (.k (.v (.one (.bool false)))), none⟩] [0] [])
 (.seq
 (.seq
 (.region [⟨some 9, .mov (.t 0), none⟩,
   ⟨some 10, .len (.t 9), none⟩,
   ⟨some 11, .bin .lss (.t 10) (.k (.v (.one (.int .i64 1)))), none⟩,
   ⟨some 12, .mov (.t 11), none⟩,
   ⟨some 13, .mov (.t 0), some (12, false)⟩,
   ⟨some 14, .len (.t 13), some (12, false)⟩,
   ⟨some 15, .bin .gtr (.t 14) (.k (.v (.one (.int .i64 8)))), some (12, false)⟩,
   ⟨some 16, .pick (.t 12) (.k (.v (.one (.bool true)))) (.t 15), none⟩,
   ⟨some 17, .mov (.t 16), none⟩,
   ⟨some 18, .mov (.t 1), some (17, false)⟩,
   ⟨some 19, .len (.t 18), some (17, false)⟩,
   ⟨some 20, .bin .gtr (.t 19) (.k (.v (.one (.int .i64 24)))), some (17, false)⟩,
   ⟨some 21, .pick (.t 17) (.k (.v (.one (.bool true)))) (.t 20), none⟩] [0, 1, 2, 3, 4, 5, 6, 7, 8, 9, 10, 11, 12] [])
 (.cond (.t 21)
  (.seq
  (.region [⟨some 4, .mov (.k (.v (.one (.bool false)))), none⟩] [0] [])
  .ret)
  .skip [0, 1, 4]))
 (.seq
 (.seq
 (.region [⟨some 22, .mov (.t 0), none⟩,
   ⟨some 23, .len (.t 22), none⟩,
   ⟨some 24, .mov (.k (.v (.one (.int .i64 0)))), none⟩] [0, 1, 2] [])
 (.block 0
  (.loop [1, 22, 23, 24]
   (.seq
   (.region [⟨some 25, .bin .lss (.t 24) (.t 23), none⟩] [0] [])
   (.seq
   (.cond (.t 25)
    .skip
    (.exit 0) [1, 22, 23, 24])
   (.seq
   (.block 1
    (.seq
    (.region [⟨some 26, .iadr 2 (.t 22) (.t 24), none⟩,
      ⟨some 27, .load (some 2) (.t 26), none⟩,
      ⟨some 6, .new 43 [(.int .i64 0), (.bool false)], none⟩,
      ⟨none, .store 2 (.t 6) (.t 27), none⟩] [0, 1, 2, 3] [])
    (.seq
    (.region [⟨some 28, .fadr 0 (.t 6), none⟩,
      ⟨some 29, .load none (.t 28), none⟩,
      ⟨some 30, .bin .lss (.t 29) (.k (.v (.one (.int .i64 0)))), none⟩,
      ⟨some 31, .mov (.t 30), none⟩,
      ⟨some 32, .fadr 0 (.t 6), some (31, false)⟩,
      ⟨some 33, .load none (.t 32), some (31, false)⟩,
      ⟨some 34, .bin .gtr (.t 33) (.k (.v (.one (.int .i64 1048576)))), some (31, false)⟩,
      ⟨some 35, .pick (.t 31) (.k (.v (.one (.bool true)))) (.t 34), none⟩] [0, 1, 2, 3, 4, 5, 6, 7] [])
    (.cond (.t 35)
     (.seq
     (.region [⟨some 4, .mov (.k (.v (.one (.bool false)))), none⟩] [0] [])
     .ret)
     .skip [1, 4, 22, 23, 24]))))
   (.region [⟨some 36, .bin .add (.t 24) (.k (.v (.one (.int .i64 1)))), none⟩,
     ⟨some 24, .mov (.t 36), none⟩] [0, 1] [])))))))
 (.seq
 (.seq
 (.region [⟨some 37, .mov (.t 1), none⟩,
   ⟨some 38, .len (.t 37), none⟩,
   ⟨some 39, .mov (.k (.v (.one (.int .i64 0)))), none⟩] [0, 1, 2] [])
 (.block 2
  (.loop [37, 38, 39]
   (.seq
   (.region [⟨some 40, .bin .lss (.t 39) (.t 38), none⟩] [0] [])
   (.seq
   (.cond (.t 40)
    .skip
    (.exit 2) [37, 38, 39])
   (.seq
   (.block 3
    (.seq
    (.region [⟨some 41, .iadr 3 (.t 37) (.t 39), none⟩,
      ⟨some 42, .load (some 3) (.t 41), none⟩,
      ⟨some 8, .new 41 [(.bool false), (.int .i64 0), (.int .i64 0)], none⟩,
      ⟨none, .store 3 (.t 8) (.t 42), none⟩] [0, 1, 2, 3] [])
    (.seq
    (.region [⟨some 43, .fadr 1 (.t 8), none⟩,
      ⟨some 44, .load none (.t 43), none⟩,
      ⟨some 45, .bin .lss (.t 44) (.k (.v (.one (.int .i64 0)))), none⟩,
      ⟨some 46, .mov (.t 45), none⟩,
      ⟨some 47, .fadr 1 (.t 8), some (46, false)⟩,
      ⟨some 48, .load none (.t 47), some (46, false)⟩,
      ⟨some 49, .bin .gtr (.t 48) (.k (.v (.one (.int .i64 1048576)))), some (46, false)⟩,
      ⟨some 50, .pick (.t 46) (.k (.v (.one (.bool true)))) (.t 49), none⟩,
      ⟨some 51, .mov (.t 50), none⟩,
      ⟨some 52, .fadr 0 (.t 8), some (51, false)⟩,
      ⟨some 53, .load none (.t 52), some (51, false)⟩,
      ⟨some 54, .mov (.t 53), some (51, false)⟩,
      ⟨some 55, .fadr 2 (.t 8), some (54, true)⟩,
      ⟨some 56, .load none (.t 55), some (54, true)⟩,
      ⟨some 57, .bin .lss (.t 56) (.k (.v (.one (.int .i64 1)))), some (54, true)⟩,
      ⟨some 58, .mov (.t 57), some (54, true)⟩,
      ⟨some 59, .fadr 2 (.t 8), some (58, false)⟩,
      ⟨some 60, .load none (.t 59), some (58, false)⟩,
      ⟨some 61, .bin .gtr (.t 60) (.k (.v (.one (.int .i64 1000)))), some (58, false)⟩,
      ⟨some 62, .pick (.t 58) (.k (.v (.one (.bool true)))) (.t 61), some (54, true)⟩,
      ⟨some 63, .pick (.t 54) (.t 62) (.k (.v (.one (.bool false)))), some (51, false)⟩,
      ⟨some 64, .pick (.t 51) (.k (.v (.one (.bool true)))) (.t 63), none⟩,
      ⟨some 65, .mov (.t 64), none⟩,
      ⟨some 66, .fadr 0 (.t 8), some (65, false)⟩,
      ⟨some 67, .load none (.t 66), some (65, false)⟩,
      ⟨some 68, .not (.t 67), some (65, false)⟩,
      ⟨some 69, .mov (.t 68), some (65, false)⟩,
      ⟨some 70, .fadr 2 (.t 8), some (69, true)⟩,
      ⟨some 71, .load none (.t 70), some (69, true)⟩,
      ⟨some 72, .bin .neq (.t 71) (.k (.v (.one (.int .i64 0)))), some (69, true)⟩,
      ⟨some 73, .pick (.t 69) (.t 72) (.k (.v (.one (.bool false)))), some (65, false)⟩,
      ⟨some 74, .pick (.t 65) (.k (.v (.one (.bool true)))) (.t 73), none⟩] [0, 1, 2, 3, 4, 5, 6, 7, 8, 9, 10, 11, 12, 13, 14, 15, 16, 17, 18, 19, 20, 21, 22, 23, 24, 25, 26, 27, 28, 29, 30, 31] [])
    (.cond (.t 74)
     (.seq
     (.region [⟨some 4, .mov (.k (.v (.one (.bool false)))), none⟩] [0] [])
     .ret)
     .skip [4, 37, 38, 39]))))
   (.region [⟨some 75, .bin .add (.t 39) (.k (.v (.one (.int .i64 1)))), none⟩,
     ⟨some 39, .mov (.t 75), none⟩] [0, 1] [])))))))
 (.seq
 (.region [⟨some 4, .mov (.k (.v (.one (.bool true)))), none⟩] [0] [])
 .ret)))))⟩
theorem t17 : tell Try.prog Try.f17 [([0, 1, 4], [], []), ([1, 22, 23, 24], [], []), ([1, 22, 23, 24], [], []), ([1, 4, 22, 23, 24], [], []), ([37, 38, 39], [], []), ([37, 38, 39], [], []), ([4, 37, 38, 39], [], [])] = some a17 := by kernel_rfl
theorem ok17 : FuncOk Try.prog 17 a17 := tell_ok Try.func17 t17

/-- railplan/railplankeep.Same[int] -/
def a18 : AFunc := ⟨2, [4], none,
 (.seq
 (.region [⟨some 4, .mov (.k (.v (.one (.bool false)))), none⟩] [0] [])
 (.seq
 (.seq
 (.region [⟨some 6, .mov (.t 0), none⟩,
   ⟨some 7, .len (.t 6), none⟩,
   ⟨some 8, .mov (.t 1), none⟩,
   ⟨some 9, .len (.t 8), none⟩,
   ⟨some 10, .bin .neq (.t 7) (.t 9), none⟩] [0, 1, 2, 3, 4] [])
 (.cond (.t 10)
  (.seq
  (.region [⟨some 4, .mov (.k (.v (.one (.bool false)))), none⟩] [0] [])
  .ret)
  .skip [0, 1, 4]))
 (.seq
 (.seq
 (.region [⟨some 11, .mov (.t 0), none⟩,
   ⟨some 12, .len (.t 11), none⟩,
   ⟨some 13, .mov (.k (.v (.one (.int .i64 0)))), none⟩] [0, 1, 2] [])
 (.block 0
  (.loop [0, 1, 12, 13]
   (.seq
   (.region [⟨some 14, .bin .lss (.t 13) (.t 12), none⟩] [0] [])
   (.seq
   (.cond (.t 14)
    .skip
    (.exit 0) [0, 1, 12, 13])
   (.seq
   (.block 1
    (.seq
    (.region [⟨some 15, .mov (.t 13), none⟩,
      ⟨some 5, .mov (.t 15), none⟩] [0, 1] [])
    (.seq
    (.region [⟨some 16, .mov (.t 0), none⟩,
      ⟨some 17, .mov (.t 5), none⟩,
      ⟨some 18, .iadr 1 (.t 16) (.t 17), none⟩,
      ⟨some 19, .load none (.t 18), none⟩,
      ⟨some 20, .mov (.t 1), none⟩,
      ⟨some 21, .mov (.t 5), none⟩,
      ⟨some 22, .iadr 1 (.t 20) (.t 21), none⟩,
      ⟨some 23, .load none (.t 22), none⟩,
      ⟨some 24, .bin .neq (.t 19) (.t 23), none⟩] [0, 1, 2, 3, 4, 5, 6, 7, 8] [])
    (.cond (.t 24)
     (.seq
     (.region [⟨some 4, .mov (.k (.v (.one (.bool false)))), none⟩] [0] [])
     .ret)
     .skip [0, 1, 4, 12, 13]))))
   (.region [⟨some 25, .bin .add (.t 13) (.k (.v (.one (.int .i64 1)))), none⟩,
     ⟨some 13, .mov (.t 25), none⟩] [0, 1] [])))))))
 (.seq
 (.region [⟨some 4, .mov (.k (.v (.one (.bool true)))), none⟩] [0] [])
 .ret))))⟩
theorem t18 : tell Try.prog Try.f18 [([0, 1, 4], [], []), ([0, 1, 12, 13], [], []), ([0, 1, 12, 13], [], []), ([0, 1, 2, 3, 4, 5, 6, 7, 8], [], [0, 0, 3, 7, 0, 0, 48, 112, 255]), ([0, 1, 4, 12, 13], [], [])] = some a18 := by kernel_rfl
theorem ok18 : FuncOk Try.prog 18 a18 := tell_ok Try.func18 t18

/-- railplan/yard.Replay -/
def a19 : AFunc := ⟨3, [6, 7], none,
 (.seq
 (.region [⟨some 6, .mov (.k (.v (.one .nils))), none⟩,
   ⟨some 7, .mov (.k (.v (.one (.bool false)))), none⟩] [0, 1] [])
 (.seq
 (.seq
 (.region [⟨some 14, .mov (.t 0), none⟩,
   ⟨some 15, .mov (.t 1), none⟩,
   ⟨some 16, .call 17 [(.t 14), (.t 15)], none⟩,
   ⟨some 17, .not (.t 16), none⟩,
   ⟨some 18, .mov (.t 17), none⟩,
   ⟨some 19, .mov (.t 2), some (18, false)⟩,
   ⟨some 20, .len (.t 19), some (18, false)⟩,
   ⟨some 21, .mov (.t 1), some (18, false)⟩,
   ⟨some 22, .len (.t 21), some (18, false)⟩,
   ⟨some 23, .bin .neq (.t 20) (.t 22), some (18, false)⟩,
   ⟨some 24, .pick (.t 18) (.k (.v (.one (.bool true)))) (.t 23), none⟩] [0, 1, 2, 3, 4, 5, 6, 7, 8, 9, 10] [])
 (.cond (.t 24)
  (.seq
  (.region [⟨some 6, .mov (.k (.v (.one .nils))), none⟩,
    ⟨some 7, .mov (.k (.v (.one (.bool false)))), none⟩] [0, 1] [])
  .ret)
  .skip [0, 1, 2, 6, 7]))
 (.seq
 (.region [⟨some 25, .mov (.t 0), none⟩,
   ⟨some 26, .mov (.t 0), none⟩,
   ⟨some 27, .len (.t 26), none⟩,
   ⟨some 28, .mks 74 1 24 [.nils] (.t 27) (.t 27), none⟩,
   ⟨some 29, .build [.nils, .nils, (.int .i64 0)] [(0, 1, (.t 25)), (1, 1, (.t 28))], none⟩,
   ⟨some 30, .box 57 3 (.t 29), none⟩,
   ⟨some 8, .mov (.t 30), none⟩] [0, 1, 2, 3, 4, 5, 6] [])
 (.seq
 (.region [⟨some 9, .mov (.k (.v (.one .nils))), none⟩] [0] [])
 (.seq
 (.seq
 (.region [⟨some 31, .mov (.t 1), none⟩,
   ⟨some 32, .len (.t 31), none⟩,
   ⟨some 33, .mov (.k (.v (.one (.int .i64 0)))), none⟩] [0, 1, 2] [])
 (.block 0
  (.loop [0, 2, 8, 9, 31, 32, 33]
   (.seq
   (.region [⟨some 34, .bin .lss (.t 33) (.t 32), none⟩] [0] [])
   (.seq
   (.cond (.t 34)
    .skip
    (.exit 0) [0, 2, 8, 9, 31, 32, 33])
   (.seq
   (.block 1
    (.seq
    (.region [⟨some 35, .mov (.t 33), none⟩,
      ⟨some 36, .iadr 3 (.t 31) (.t 33), none⟩,
      ⟨some 37, .load (some 3) (.t 36), none⟩,
      ⟨some 11, .new 41 [(.bool false), (.int .i64 0), (.int .i64 0)], none⟩,
      ⟨some 10, .mov (.t 35), none⟩,
      ⟨none, .store 3 (.t 11) (.t 37), none⟩] [0, 1, 2, 3, 4, 5] [])
    (.seq
    (.seq
    (.region [⟨some 38, .mov (.t 2), none⟩,
      ⟨some 39, .mov (.t 10), none⟩,
      ⟨some 40, .iadr 1 (.t 38) (.t 39), none⟩,
      ⟨some 41, .load none (.t 40), none⟩,
      ⟨some 42, .bin .lss (.t 41) (.k (.v (.one (.int .i64 0)))), none⟩,
      ⟨some 43, .mov (.t 42), none⟩,
      ⟨some 44, .mov (.t 2), some (43, false)⟩,
      ⟨some 45, .mov (.t 10), some (43, false)⟩,
      ⟨some 46, .iadr 1 (.t 44) (.t 45), some (43, false)⟩,
      ⟨some 47, .load none (.t 46), some (43, false)⟩,
      ⟨some 48, .mov (.t 0), some (43, false)⟩,
      ⟨some 49, .len (.t 48), some (43, false)⟩,
      ⟨some 50, .bin .geq (.t 47) (.t 49), some (43, false)⟩,
      ⟨some 51, .pick (.t 43) (.k (.v (.one (.bool true)))) (.t 50), none⟩] [0, 1, 2, 3, 4, 5, 6, 7, 8, 9, 10, 11, 12, 13] [])
    (.cond (.t 51)
     (.seq
     (.region [⟨some 6, .mov (.k (.v (.one .nils))), none⟩,
       ⟨some 7, .mov (.k (.v (.one (.bool false)))), none⟩] [0, 1] [])
     .ret)
     .skip [0, 2, 6, 7, 8, 9, 10, 11, 31, 32, 33]))
    (.seq
    (.region [⟨some 53, .mov (.t 8), none⟩,
      ⟨some 54, .mov (.t 2), none⟩,
      ⟨some 55, .mov (.t 10), none⟩,
      ⟨some 56, .iadr 1 (.t 54) (.t 55), none⟩,
      ⟨some 57, .load none (.t 56), none⟩,
      ⟨some 58, .load (some 3) (.t 11), none⟩,
      ⟨some 59, .call 30 [(.t 53), (.t 57), (.t 58)], none⟩,
      ⟨some 52, .mov (.t 59), none⟩,
      ⟨some 60, .ext 0 (.t 52), none⟩,
      ⟨some 61, .ext 1 (.t 52), none⟩,
      ⟨some 12, .mov (.t 60), none⟩,
      ⟨some 13, .mov (.t 61), none⟩] [0, 1, 2, 3, 4, 5, 6, 7, 8, 9, 10, 11] [])
    (.seq
    (.seq
    (.region [⟨some 62, .mov (.t 13), none⟩,
      ⟨some 63, .not (.t 62), none⟩] [0, 1] [])
    (.cond (.t 63)
     (.seq
     (.region [⟨some 6, .mov (.k (.v (.one .nils))), none⟩,
       ⟨some 7, .mov (.k (.v (.one (.bool false)))), none⟩] [0, 1] [])
     .ret)
     .skip [0, 2, 6, 7, 8, 9, 12, 31, 32, 33]))
    (.region [⟨some 64, .mov (.t 9), none⟩,
      ⟨some 65, .mov (.t 12), none⟩,
      ⟨some 66, .bsl 3 1 1 [(.int .i64 0)] [(0, 1, (.t 65))], none⟩,
      ⟨some 67, .app 3 1 8 (.t 64) (.t 66), none⟩,
      ⟨some 9, .mov (.t 67), none⟩] [0, 1, 2, 3, 4] []))))))
   (.region [⟨some 68, .bin .add (.t 33) (.k (.v (.one (.int .i64 1)))), none⟩,
     ⟨some 33, .mov (.t 68), none⟩] [0, 1] [])))))))
 (.seq
 (.region [⟨some 69, .mov (.t 9), none⟩,
   ⟨some 6, .mov (.t 69), none⟩,
   ⟨some 7, .mov (.k (.v (.one (.bool true)))), none⟩] [0, 1, 2] [])
 .ret))))))⟩
theorem t19 : tell Try.prog Try.f19 [([0, 1, 2, 6, 7], [], []), ([0, 2, 8, 9, 31, 32, 33], [], []), ([0, 2, 8, 9, 31, 32, 33], [], []), ([0, 2, 6, 7, 8, 9, 10, 11, 31, 32, 33], [], []), ([0, 1, 2, 3, 4, 5, 6, 7, 8, 9, 10, 11], [], [0, 0, 0, 6, 14, 0, 63, 127, 255, 255, 511, 2047]), ([0, 2, 6, 7, 8, 9, 12, 31, 32, 33], [], [])] = some a19 := by kernel_rfl
theorem ok19 : FuncOk Try.prog 19 a19 := tell_ok Try.func19 t19

/-- railplan/yard.Stuck -/
def a23 : AFunc := ⟨3, [6, 7], none,
 (.seq
 (.region [⟨some 6, .mov (.k (.v (.one (.int .i64 0)))), none⟩,
   ⟨some 7, .mov (.k (.v (.one (.int .i64 0)))), none⟩] [0, 1] [])
 (.seq
 (.seq
 (.region [⟨some 12, .mov (.t 0), none⟩,
   ⟨some 13, .mov (.t 1), none⟩,
   ⟨some 14, .call 17 [(.t 12), (.t 13)], none⟩,
   ⟨some 15, .not (.t 14), none⟩] [0, 1, 2, 3] [])
 (.cond (.t 15)
  (.seq
  (.region [⟨some 6, .mov (.k (.v (.one (.int .i64 0)))), none⟩,
    ⟨some 7, .mov (.k (.v (.one (.int .i64 1)))), none⟩] [0, 1] [])
  .ret)
  .skip [0, 1, 2, 6, 7]))
 (.seq
 (.seq
 (.region [⟨some 16, .mov (.t 2), none⟩,
   ⟨some 17, .bin .lss (.t 16) (.k (.v (.one (.int .i64 1)))), none⟩,
   ⟨some 18, .mov (.t 17), none⟩,
   ⟨some 19, .mov (.t 2), some (18, false)⟩,
   ⟨some 20, .bin .gtr (.t 19) (.k (.v (.one (.int .i64 1048576)))), some (18, false)⟩,
   ⟨some 21, .pick (.t 18) (.k (.v (.one (.bool true)))) (.t 20), none⟩] [0, 1, 2, 3, 4, 5] [])
 (.cond (.t 21)
  (.seq
  (.region [⟨some 6, .mov (.k (.v (.one (.int .i64 0)))), none⟩,
    ⟨some 7, .mov (.k (.v (.one (.int .i64 4)))), none⟩] [0, 1] [])
  .ret)
  .skip [0, 1, 2, 6, 7]))
 (.seq
 (.seq
 (.region [⟨some 8, .mov (.k (.v (.one (.int .i64 1)))), none⟩] [0] [])
 (.block 0
  (.loop [0, 1, 2, 8]
   (.seq
   (.seq
   (.region [⟨some 22, .mov (.t 8), none⟩,
     ⟨some 23, .mov (.t 1), none⟩,
     ⟨some 24, .len (.t 23), none⟩,
     ⟨some 25, .bin .leq (.t 22) (.t 24), none⟩] [0, 1, 2, 3] [])
   (.cond (.t 25)
    .skip
    (.exit 0) [0, 1, 2, 8]))
   (.seq
   (.block 1
    (.seq
    (.region [⟨some 29, .mov (.t 0), none⟩,
      ⟨some 30, .mov (.t 1), none⟩,
      ⟨some 31, .mov (.t 8), none⟩,
      ⟨some 32, .slc 3 (.t 30) none (some (.t 31)), none⟩,
      ⟨some 33, .mov (.t 2), none⟩,
      ⟨some 34, .call 14 [(.t 29), (.t 32), (.t 33)], none⟩,
      ⟨some 28, .mov (.t 34), none⟩,
      ⟨some 35, .ext 0 (.t 28), none⟩,
      ⟨some 36, .ext 1 (.t 28), none⟩,
      ⟨some 37, .ext 2 (.t 28), none⟩,
      ⟨some 9, .mov (.t 35), none⟩,
      ⟨some 10, .mov (.t 36), none⟩,
      ⟨some 11, .mov (.t 37), none⟩] [0, 1, 2, 3, 4, 5, 6, 7, 8, 9, 10, 11, 12] [])
    (.seq
    (.region [⟨some 38, .mov (.t 11), none⟩] [0] [])
    (.block 2
     (.seq
     (.region [⟨some 40, .bin .eql (.t 38) (.k (.v (.one (.int .i64 14)))), none⟩,
       ⟨some 39, .mov (.t 40), none⟩] [0, 1] [])
     (.cond (.t 39)
      (.seq
      (.region [⟨some 41, .mov (.t 8), none⟩,
        ⟨some 6, .mov (.t 41), none⟩,
        ⟨some 7, .mov (.k (.v (.one (.int .i64 0)))), none⟩] [0, 1, 2] [])
      .ret)
      (.seq
      (.region [⟨some 43, .bin .eql (.t 38) (.k (.v (.one (.int .i64 15)))), none⟩,
        ⟨some 42, .mov (.t 43), none⟩] [0, 1] [])
      (.cond (.t 42)
       (.seq
       (.region [⟨some 6, .mov (.k (.v (.one (.int .i64 0)))), none⟩,
         ⟨some 7, .mov (.k (.v (.one (.int .i64 15)))), none⟩] [0, 1] [])
       .ret)
       .skip [0, 1, 2, 6, 7, 8])) [0, 1, 2, 6, 7, 8]))))))
   (.region [⟨some 26, .mov (.t 8), none⟩,
     ⟨some 27, .bin .add (.t 26) (.k (.v (.one (.int .i64 1)))), none⟩,
     ⟨some 8, .mov (.t 27), none⟩] [0, 1, 2] []))))))
 (.seq
 (.region [⟨some 6, .mov (.k (.v (.one (.int .i64 0)))), none⟩,
   ⟨some 7, .mov (.k (.v (.one (.int .i64 0)))), none⟩] [0, 1] [])
 .ret)))))⟩
theorem t23 : tell Try.prog Try.f23 [([0, 1, 2, 6, 7], [], []), ([0, 1, 2, 6, 7], [], []), ([0, 1, 2, 8], [], []), ([0, 1, 2, 8], [], []), ([0, 1, 2, 6, 7, 8], [], []), ([0, 1, 2, 6, 7, 8], [], [])] = some a23 := by kernel_rfl
theorem ok23 : FuncOk Try.prog 23 a23 := tell_ok Try.func23 t23

/-- railplan/railplanlaw29.example -/
def a24 : AFunc := ⟨2, [4], none,
 (.seq
 (.region [⟨some 4, .mov (.k (.v (.one .nils))), none⟩] [0] [])
 (.seq
 (.region [⟨some 5, .build [(.bool false), (.int .i64 0), (.int .i64 0)] [(0, 1, (.k (.v (.one (.bool true))))), (1, 1, (.k (.v (.one (.int .i64 1))))), (2, 1, (.k (.v (.one (.int .i64 10)))))], none⟩,
   ⟨some 6, .build [(.bool false), (.int .i64 0), (.int .i64 0)] [(0, 1, (.k (.v (.one (.bool true))))), (1, 1, (.k (.v (.one (.int .i64 2))))), (2, 1, (.k (.v (.one (.int .i64 10)))))], none⟩,
   ⟨some 7, .mov (.t 0), none⟩,
   ⟨some 8, .build [(.bool false), (.int .i64 0), (.int .i64 0)] [(1, 1, (.t 7))], none⟩,
   ⟨some 9, .mov (.t 1), none⟩,
   ⟨some 10, .build [(.bool false), (.int .i64 0), (.int .i64 0)] [(1, 1, (.t 9))], none⟩,
   ⟨some 11, .bsl 41 3 4 [(.bool false), (.int .i64 0), (.int .i64 0)] [(0, 3, (.t 5)), (3, 3, (.t 6)), (6, 3, (.t 8)), (9, 3, (.t 10))], none⟩,
   ⟨some 4, .mov (.t 11), none⟩] [0, 1, 2, 3, 4, 5, 6, 7] [])
 .ret))⟩
theorem t24 : tell Try.prog Try.f24 [] = some a24 := by kernel_rfl
theorem ok24 : FuncOk Try.prog 24 a24 := tell_ok Try.func24 t24

end Go.Proofs.Ytmflcoojlejafaa.Fn
