/- The functions' table. Conditions: none. -/
import Derived.Test.YthoicdnlcnppgaaFnA
import Derived.Test.YthoicdnlcnppgaaFnB
import Derived.Test.YthoicdnlcnppgaaFnC
import Derived.Test.YthoicdnlcnppgaaFnD
import Derived.Test.YthoicdnlcnppgaaFnE
import Derived.Test.YthoicdnlcnppgaaFnF
import Derived.Test.YthoicdnlcnppgaaFnG
import Derived.Test.YthoicdnlcnppgaaFnH
import Derived.Test.YthoicdnlcnppgaaFnI
import Derived.Test.YthoicdnlcnppgaaAmLs
set_option linter.unusedVariables false
namespace Go.Proofs.Ythoicdnlcnppgaa.Fn
open Go Go.Am
def fs : Nat → Option AFunc
  | 12 => some a12
  | 13 => some a13
  | 15 => some a15
  | 16 => some a16
  | 17 => some a17
  | 18 => some a18
  | 19 => some a19
  | 20 => some a20
  | 21 => some a21
  | 22 => some a22
  | 23 => some a23
  | 24 => some a24
  | 25 => some a25
  | 26 => some a26
  | 27 => some a27
  | 28 => some a28
  | 29 => some a29
  | 30 => some a30
  | 31 => some a31
  | 32 => some a32
  | _ => none
theorem fs_ok : ∀ f fn, fs f = some fn → FuncOk Try.prog f fn := by
  intro f fn h
  unfold fs at h
  split at h
  · cases h; exact ok12
  · cases h; exact ok13
  · cases h; exact ok15
  · cases h; exact ok16
  · cases h; exact ok17
  · cases h; exact ok18
  · cases h; exact ok19
  · cases h; exact ok20
  · cases h; exact ok21
  · cases h; exact ok22
  · cases h; exact ok23
  · cases h; exact ok24
  · cases h; exact ok25
  · cases h; exact ok26
  · cases h; exact ok27
  · cases h; exact ok28
  · cases h; exact ok29
  · cases h; exact ok30
  · cases h; exact ok31
  · cases h; exact ok32
  · cases h
theorem fs12 : fs 12 = some a12 := rfl
theorem fs13 : fs 13 = some a13 := rfl
theorem fs15 : fs 15 = some a15 := rfl
theorem fs16 : fs 16 = some a16 := rfl
theorem fs17 : fs 17 = some a17 := rfl
theorem fs18 : fs 18 = some a18 := rfl
theorem fs19 : fs 19 = some a19 := rfl
theorem fs20 : fs 20 = some a20 := rfl
theorem fs21 : fs 21 = some a21 := rfl
theorem fs22 : fs 22 = some a22 := rfl
theorem fs23 : fs 23 = some a23 := rfl
theorem fs24 : fs 24 = some a24 := rfl
theorem fs25 : fs 25 = some a25 := rfl
theorem fs26 : fs 26 = some a26 := rfl
theorem fs27 : fs 27 = some a27 := rfl
theorem fs28 : fs 28 = some a28 := rfl
theorem fs29 : fs 29 = some a29 := rfl
theorem fs30 : fs 30 = some a30 := rfl
theorem fs31 : fs 31 = some a31 := rfl
theorem fs32 : fs 32 = some a32 := rfl
def fs0 (f : Nat) : Option AFunc := if f = 14 then some a14 else fs f
theorem fs0_ok : ∀ f fn, fs0 f = some fn → FuncOk Try.prog f fn := by
  intro f fn h
  unfold fs0 at h
  split at h
  · rename_i hf; subst hf; cases h; exact ok14
  exact fs_ok f fn h
def told (x : Option (T × AH)) : Bool := match x with
  | some (.v (.one (.bool b)), _) => b
  | _ => false
theorem told_spec {x : Option (T × AH)} (h : told x = true) : ∃ h', x = some (.v (.one (.bool true)), h') := by
  unfold told at h
  split at h
  · subst h; exact ⟨_, rfl⟩
  · cases h
def cl (f : Nat) : Option Bool := if f = 14 then some true else none
set_option maxRecDepth 100000
theorem run14 : told (acall fs0 nothing 60 14 [] { o := fun _ => none, nx := 0 }) = true := by kernel_rfl
theorem cl_ok : ∀ f b, cl f = some b → ∃ k h', acall fs0 nothing k f [] { o := fun _ => none, nx := 0 } = some (.v (.one (.bool b)), h') := by
  intro f b h
  unfold cl at h
  split at h
  · rename_i hf; subst hf; cases h; exact ⟨60, told_spec run14⟩
  cases h
def out : Rec := closed cl
theorem out_ok : RecOk Try.prog out := closed_ok fs0_ok nothing_ok cl_ok
theorem out14 (h : AH) : wpf (out 14 [] h) fun r h' => r = .v (.one (.bool true)) ∧ h' = h := ⟨_, _, rfl, rfl, rfl⟩
end Go.Proofs.Ythoicdnlcnppgaa.Fn
