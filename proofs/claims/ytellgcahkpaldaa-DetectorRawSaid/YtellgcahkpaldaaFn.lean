/- The functions' table. Conditions: none. -/
import Derived.Test.YtellgcahkpaldaaFnA
import Derived.Test.YtellgcahkpaldaaFnB
import Derived.Test.YtellgcahkpaldaaFnC
import Derived.Test.YtellgcahkpaldaaFnD
import Derived.Test.YtellgcahkpaldaaFnE
import Derived.Test.YtellgcahkpaldaaAmLs
set_option linter.unusedVariables false
namespace Go.Proofs.Ytellgcahkpaldaa.Fn
open Go Go.Am
def fs : Nat → Option AFunc
  | 8 => some a8
  | 9 => some a9
  | 10 => some a10
  | 11 => some a11
  | 13 => some a13
  | 14 => some a14
  | 15 => some a15
  | 17 => some a17
  | 18 => some a18
  | 19 => some a19
  | 20 => some a20
  | 21 => some a21
  | 22 => some a22
  | 23 => some a23
  | 24 => some a24
  | 25 => some a25
  | 26 => some a26
  | 27 => some a27
  | 28 => some a28
  | _ => none
theorem fs_ok : ∀ f fn, fs f = some fn → FuncOk Try.prog f fn := by
  intro f fn h
  unfold fs at h
  split at h
  · cases h; exact ok8
  · cases h; exact ok9
  · cases h; exact ok10
  · cases h; exact ok11
  · cases h; exact ok13
  · cases h; exact ok14
  · cases h; exact ok15
  · cases h; exact ok17
  · cases h; exact ok18
  · cases h; exact ok19
  · cases h; exact ok20
  · cases h; exact ok21
  · cases h; exact ok22
  · cases h; exact ok23
  · cases h; exact ok24
  · cases h; exact ok25
  · cases h; exact ok26
  · cases h; exact ok27
  · cases h; exact ok28
  · cases h
theorem fs8 : fs 8 = some a8 := rfl
theorem fs9 : fs 9 = some a9 := rfl
theorem fs10 : fs 10 = some a10 := rfl
theorem fs11 : fs 11 = some a11 := rfl
theorem fs13 : fs 13 = some a13 := rfl
theorem fs14 : fs 14 = some a14 := rfl
theorem fs15 : fs 15 = some a15 := rfl
theorem fs17 : fs 17 = some a17 := rfl
theorem fs18 : fs 18 = some a18 := rfl
theorem fs19 : fs 19 = some a19 := rfl
theorem fs20 : fs 20 = some a20 := rfl
theorem fs21 : fs 21 = some a21 := rfl
theorem fs22 : fs 22 = some a22 := rfl
theorem fs23 : fs 23 = some a23 := rfl
theorem fs24 : fs 24 = some a24 := rfl
theorem fs25 : fs 25 = some a25 := rfl
theorem fs26 : fs 26 = some a26 := rfl
theorem fs27 : fs 27 = some a27 := rfl
theorem fs28 : fs 28 = some a28 := rfl
def fs0 (f : Nat) : Option AFunc := if f = 16 then some a16 else fs f
theorem fs0_ok : ∀ f fn, fs0 f = some fn → FuncOk Try.prog f fn := by
  intro f fn h
  unfold fs0 at h
  split at h
  · rename_i hf; subst hf; cases h; exact ok16
  exact fs_ok f fn h
def told (x : Option (T × AH)) : Bool := match x with
  | some (.v (.one (.bool b)), _) => b
  | _ => false
theorem told_spec {x : Option (T × AH)} (h : told x = true) : ∃ h', x = some (.v (.one (.bool true)), h') := by
  unfold told at h
  split at h
  · subst h; exact ⟨_, rfl⟩
  · cases h
def cl (f : Nat) : Option Bool := if f = 16 then some true else none
set_option maxRecDepth 100000
theorem run16 : told (acall fs0 nothing 60 16 [] { o := fun _ => none, nx := 0 }) = true := by kernel_rfl
theorem cl_ok : ∀ f b, cl f = some b → ∃ k h', acall fs0 nothing k f [] { o := fun _ => none, nx := 0 } = some (.v (.one (.bool b)), h') := by
  intro f b h
  unfold cl at h
  split at h
  · rename_i hf; subst hf; cases h; exact ⟨60, told_spec run16⟩
  cases h
def out : Rec := closed cl
theorem out_ok : RecOk Try.prog out := closed_ok fs0_ok nothing_ok cl_ok
theorem out16 (h : AH) : wpf (out 16 [] h) fun r h' => r = .v (.one (.bool true)) ∧ h' = h := ⟨_, _, rfl, rfl, rfl⟩
end Go.Proofs.Ytellgcahkpaldaa.Fn
