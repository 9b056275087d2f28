/- The functions' table. Conditions: none. -/
import Derived.Test.YtmflcoojlejafaaFnA
import Derived.Test.YtmflcoojlejafaaFnB
set_option linter.unusedVariables false
namespace Go.Proofs.Ytmflcoojlejafaa.Fn
open Go Go.Am
def fs : Nat → Option AFunc
  | 9 => some a9
  | 14 => some a14
  | 16 => some a16
  | 17 => some a17
  | 18 => some a18
  | 19 => some a19
  | 23 => some a23
  | 24 => some a24
  | 27 => some a27
  | 30 => some a30
  | 32 => some a32
  | 33 => some a33
  | 35 => some a35
  | _ => none
theorem fs_ok : ∀ f fn, fs f = some fn → FuncOk Try.prog f fn := by
  intro f fn h
  unfold fs at h
  split at h
  · cases h; exact ok9
  · cases h; exact ok14
  · cases h; exact ok16
  · cases h; exact ok17
  · cases h; exact ok18
  · cases h; exact ok19
  · cases h; exact ok23
  · cases h; exact ok24
  · cases h; exact ok27
  · cases h; exact ok30
  · cases h; exact ok32
  · cases h; exact ok33
  · cases h; exact ok35
  · cases h
theorem fs9 : fs 9 = some a9 := rfl
theorem fs14 : fs 14 = some a14 := rfl
theorem fs16 : fs 16 = some a16 := rfl
theorem fs17 : fs 17 = some a17 := rfl
theorem fs18 : fs 18 = some a18 := rfl
theorem fs19 : fs 19 = some a19 := rfl
theorem fs23 : fs 23 = some a23 := rfl
theorem fs24 : fs 24 = some a24 := rfl
theorem fs27 : fs 27 = some a27 := rfl
theorem fs30 : fs 30 = some a30 := rfl
theorem fs32 : fs 32 = some a32 := rfl
theorem fs33 : fs 33 = some a33 := rfl
theorem fs35 : fs 35 = some a35 := rfl
end Go.Proofs.Ytmflcoojlejafaa.Fn
