/- YardExample returns true: it takes nothing, so its run by the abstract machine is computed. Conditions: none. -/
import Derived.Test.YtmflcoojlejafaaRows
import Derived.Test.YtmflcoojlejafaaFn
import Derived.WalkKit
import Derived.ProofKit
import Derived.OpenShut
import Derived.ShutString
import Derived.ChangeOld
import Derived.Below
import Derived.SizedLaws
namespace Go.Proofs.Ytmflcoojlejafaa.yardExample
open Go.ChangeShapes Go.WideShapes Go.ChangeAt Go.RowKit Go.Am
set_option linter.unusedVariables false
def told (x : Option (T × AH)) : Bool := match x with
  | some (.v (.one (.bool b)), _) => b
  | _ => false
theorem told_spec {x : Option (T × AH)} (h : told x = true) : ∃ h', x = some (.v (.one (.bool true)), h') := by
  unfold told at h
  split at h
  · subst h; exact ⟨_, rfl⟩
  · cases h
set_option maxRecDepth 100000 in
theorem run0 : told (acall Fn.fs 60 9 [] { o := fun _ => none, nx := 0 }) = true := by kernel_rfl
theorem own : ownKnob Try.prog.godebug = none := by kernel_rfl
set_option maxRecDepth 100000 in
theorem lifted (os : Os) (started : os.Started) (H : Type) (enc : TypeId × Value → H) :
    ReturnsInHanded {} Try.checked os 9 .any (Rows.yardExampleSpec.pre6 enc Try.prog Try.f9 Rows.yardExampleRow.domain false) (Rows.yardExampleSpec.post enc Try.prog Try.f9 false true false false) := by
  refine returnsInHanded_of_change_sized (C := Try.checked) own started (by kernel_rfl) Try.func9
    (ChangeSpec.witness6 (enc := enc) (C := Try.checked) false ⟨#[], #[], []⟩ 8 (by kernel_rfl) (by kernel_rfl) (by kernel_rfl) (by kernel_rfl)) ?_
  intro W base args ds gs before hval0 hW hcnd hsz0 _
  have hsz : (DataW.weightsEach Try.prog (Try.f9.params.toList ++ Rows.yardExampleSpec.plain.varTypes Try.prog) (ds ++ gs)).all (· ≤ reachBytes) = true := hsz0
  have hval : ∀ (j : Nat) t v, Try.f9.params[j]? = some t → args[j]? = some v → Value.okWide Try.prog W .any base t v := hval0
  have hW' := hW
  obtain ⟨p, q, hA0, hV, rfl, hfz, hnd⟩ := hW
  have hA : DataW.TrodAll enc Try.prog W 0 (fun _ => true) true Try.f9.params.toList args.toList ds p := hA0
  rw [Try.params9] at hA hval hsz
  obtain ⟨rfl, rfl, rfl⟩ := trodAll_none hA
  obtain ⟨rfl, rfl⟩ := trodVars_none hV
  clear hA0 hval0 hsz0 hsz
  obtain ⟨h', hr⟩ := told_spec run0
  refine (calls_of Fn.fs_ok hr (h0_rel W) lrel.nil rfl).mono fun e W' ⟨he, bel⟩ => ?_
  subst he
  exact ⟨_, rfl, _, _, _, [], _, [], hW', trodAll_mk1 (shut_bool Try.underlying4 _), trodAll_mk0, rfl, bel.frame _, fun h => by cases h⟩
theorem over : Rows.yardExampleRow.holds Try.pinned (OpenSpec.ofChange Rows.yardExampleSpec) :=
  OpenClaim.holds_of_wide 9 Try.f9 rfl rfl rfl rfl rfl rfl rfl ⟨rfl, rfl, rfl, rfl, rfl⟩ rfl rfl rfl rfl rfl (by kernel_rfl) Try.func9 (by kernel_rfl)
    (of_decide_eq_true (by kernel_rfl)) (by unfold Func.isWrapper; first | (rw [if_pos (by decide +kernel)]; kernel_rfl) | (rw [if_neg (by decide +kernel)]; exact ⟨rfl, rfl⟩))
    (fun os started H enc _ => lifted os started H enc)
theorem proved : Rows.YardExampleSaid := over
#print axioms proved
end Go.Proofs.Ytmflcoojlejafaa.yardExample
namespace Go.Proofs.Ytmflcoojlejafaa
/-- The row, under a short name, for the claim. -/
theorem yardExample_holds : Rows.YardExampleSaid := yardExample.proved
end Go.Proofs.Ytmflcoojlejafaa
