/- DelayMade: the row, from its contract. Conditions: none. -/
import Derived.Test.YthoicdnlcnppgaaRows
import Derived.Test.YthoicdnlcnppgaaL9
import Derived.Test.YthoicdnlcnppgaaAmRw
import Derived.WalkKit
import Derived.ProofKit
import Derived.OpenShut
import Derived.ShutString
import Derived.ChangeOld
import Derived.Below
import Derived.SizedLaws
namespace Go.Proofs.Ythoicdnlcnppgaa.delayMade
open Go.ChangeShapes Go.WideShapes Go.ChangeAt Go.RowKit Go.Am
open Go.ChangeMaps (open_string shut_string)
set_option linter.unusedVariables false
set_option linter.unusedSimpArgs false
theorem own : ownKnob Try.prog.godebug = none := by kernel_rfl
theorem laidOut : laidOutB Try.prog = true := by kernel_rfl
set_option maxRecDepth 100000 in
theorem lifted (os : Os) (started : os.Started) (H : Type) (enc : TypeId × Value → H) :
    ReturnsInHanded {} Try.checked os 9 .any (Rows.delayMadeSpec.pre6 enc Try.prog Try.f9 Rows.delayMadeRow.domain false) (Rows.delayMadeSpec.post enc Try.prog Try.f9 false true false false) := by
  refine returnsInHanded_of_change_sized (C := Try.checked) own started (by kernel_rfl) Try.func9
    (ChangeSpec.witness6 (enc := enc) (C := Try.checked) false ⟨#[], #[.slice none 0 0, .int .i64 0, .int .i64 0, .int .i64 0], []⟩ 8 (by kernel_rfl) (by kernel_rfl) (by kernel_rfl) (by kernel_rfl)) ?_
  intro W base args ds gs before hval0 hW hcnd hsz0 _
  have hsz : (DataW.weightsEach Try.prog (Try.f9.params.toList ++ Rows.delayMadeSpec.plain.varTypes Try.prog) (ds ++ gs)).all (· ≤ reachBytes) = true := hsz0
  have hval : ∀ (j : Nat) t v, Try.f9.params[j]? = some t → args[j]? = some v → Value.okWide Try.prog W .any base t v := hval0
  have hW' := hW
  obtain ⟨p, q, hA0, hV, rfl, hfz, hnd⟩ := hW
  have hA : DataW.TrodAll enc Try.prog W 0 (fun _ => true) true Try.f9.params.toList args.toList ds p := hA0
  rw [Try.params9] at hA hval hsz
  obtain ⟨v0, vs0, d0, ds0, p0, q0, hargs, rfl, rfl, h0, r0⟩ := trodAll_cons hA
  obtain ⟨v1, vs1, d1, ds1, p1, q1, rfl, rfl, rfl, h1, r1⟩ := trodAll_cons r0
  obtain ⟨v2, vs2, d2, ds2, p2, q2, rfl, rfl, rfl, h2, r2⟩ := trodAll_cons r1
  obtain ⟨v3, vs3, d3, ds3, p3, q3, rfl, rfl, rfl, h3, r3⟩ := trodAll_cons r2
  obtain ⟨rfl, rfl, rfl⟩ := trodAll_nil r3
  obtain rfl : args = #[v0, v1, v2, v3] := by cases args; simp_all
  obtain ⟨rfl, rfl⟩ := trodVars_none hV
  obtain ⟨a0, len0, cap0, rfl⟩ := okWide_slice Try.underlying22 (hval 0 22 v0 rfl rfl)
  have k0 := h0
  have lt0 : ∀ x ∈ p0, x.block < W.heap.size := by obtain ⟨m, hm⟩ := k0; exact DataW.trod_lt m _ _ _ hm
  obtain ⟨z0, w0⟩ := isRow_of (k := .i64) Try.underlying22 Try.underlying3 (by kernel_rfl) h0
  have y0 : len0 * 8 ≤ 140737488351232 := sizedInts hsz (j := 0) (t := 22) rfl rfl Try.underlying22 Try.underlying3 (by kernel_rfl) (by kernel_rfl) h0
  have b0 : ∀ x, a0 = some x → x.block < W.heap.size := by rintro x rfl; exact okWide_block Try.underlying22 (hval 0 22 _ rfl rfl)
  obtain ⟨a1, rfl, rfl, rfl, w1⟩ := open_int Try.underlying3 (hval 1 3 v1 rfl rfl) h1
  obtain ⟨a2, rfl, rfl, rfl, w2⟩ := open_int Try.underlying3 (hval 2 3 v2 rfl rfl) h2
  obtain ⟨a3, rfl, rfl, rfl, w3⟩ := open_int Try.underlying3 (hval 3 3 v3 rfl rfl) h3
  clear hA0 hval0 hsz0 hsz
  obtain ⟨ars, has⟩ : ∃ ars, ars = ([argO a0 z0] : List (Option (List Cell))) := ⟨_, rfl⟩
  obtain ⟨ads, hads⟩ : ∃ ads, ads = ([a0] : List (Option Addr)) := ⟨_, rfl⟩
  have rel : HRel W.heap.size W (roE ads) (roH ars) W := by
    refine ro_rel (by rw [has, hads]; simp) fun j cs h => ?_
    subst has hads
    match j with
    | 0 =>
      obtain ⟨x, hx, hc⟩ := arg_cells w0 (by simpa using h)
      exact ⟨x, by simp [hx], b0 x hx, fun i c hi => hc _ i c hi⟩
    | j + 1 => simp at h
  obtain ⟨r, h', ⟨kk, hr⟩, he⟩ := Fn.k9 (argC a0 len0 0) (z0.take len0) a1 a2 a3 (roH ars) (arg_view w0 (j := 0) (by rw [has]; rfl)) (by rw [arg_len w0]; omega)
  subst he
  refine (calls_of Fn.fl9_ok Fn.out_ok hr rel (lrel.cons (arg_rel w0 (j := 0) (by rw [hads]; rfl)) (lrel.cons (rfl) (lrel.cons (rfl) (lrel.cons (rfl) (lrel.nil))))) rfl).mono fun e W' ⟨he, bel⟩ => ?_
  subst he
  exact ⟨_, rfl, _, _, _, [], _, [], hW', trodAll_mk1 (shut_bool Try.underlying4 _), (trodAll_cons_mk (Below.trod laidOut (by kernel_rfl) (of_decide_eq_true (by kernel_rfl)) k0 bel lt0) (trodAll_cons_mk (shut_int Try.underlying3 w1) (trodAll_cons_mk (shut_int Try.underlying3 w2) (trodAll_cons_mk (shut_int Try.underlying3 w3) trodAll_mk0)))), rfl, bel.frame _, fun h => by cases h⟩
theorem over : Rows.delayMadeRow.holds Try.pinned (OpenSpec.ofChange Rows.delayMadeSpec) :=
  OpenClaim.holds_of_wide 9 Try.f9 rfl rfl rfl rfl rfl rfl rfl ⟨rfl, rfl, rfl, rfl, rfl⟩ rfl rfl rfl rfl rfl (by kernel_rfl) Try.func9 (by kernel_rfl)
    (of_decide_eq_true (by kernel_rfl)) (by unfold Func.isWrapper; first | (rw [if_pos (by decide +kernel)]; kernel_rfl) | (rw [if_neg (by decide +kernel)]; exact ⟨rfl, rfl⟩))
    (fun os started H enc _ => lifted os started H enc)
theorem proved : Rows.DelayMadeSaid := over
#print axioms proved
end Go.Proofs.Ythoicdnlcnppgaa.delayMade
namespace Go.Proofs.Ythoicdnlcnppgaa
/-- The row, under a short name, for the claim. -/
theorem delayMade_holds : Rows.DelayMadeSaid := delayMade.proved
end Go.Proofs.Ythoicdnlcnppgaa
