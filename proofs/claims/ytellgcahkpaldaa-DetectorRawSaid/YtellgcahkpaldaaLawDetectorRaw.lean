/- DetectorRaw: the row, from its contract. Conditions: none. -/
import Derived.Test.YtellgcahkpaldaaRows
import Derived.Test.YtellgcahkpaldaaX10
import Derived.Test.YtellgcahkpaldaaAmRs
import Derived.WalkKit
import Derived.ProofKit
import Derived.OpenShut
import Derived.ShutString
import Derived.ChangeOld
import Derived.Below
import Derived.SizedLaws
namespace Go.Proofs.Ytellgcahkpaldaa.detectorRaw
open Go.ChangeShapes Go.WideShapes Go.ChangeAt Go.RowKit Go.Am
open Go.ChangeMaps (open_string shut_string)
set_option linter.unusedVariables false
set_option linter.unusedSimpArgs false
theorem own : ownKnob Try.prog.godebug = none := by kernel_rfl
theorem laidOut : laidOutB Try.prog = true := by kernel_rfl
set_option maxRecDepth 100000 in
theorem lifted (os : Os) (started : os.Started) (H : Type) (enc : TypeId × Value → H) :
    ReturnsInHanded {} Try.checked os 10 .any (Rows.detectorRawSpec.pre6 enc Try.prog Try.f10 Rows.detectorRawRow.domain false) (Rows.detectorRawSpec.post enc Try.prog Try.f10 false true false false) := by
  refine returnsInHanded_of_change_sized (C := Try.checked) own started (by kernel_rfl) Try.func10
    (ChangeSpec.witness6 (enc := enc) (C := Try.checked) false ⟨#[], #[.agg #[.int .i64 0, .int .i64 0, .int .i64 0], .agg #[.int .i64 0, .bool false, .int .i64 0, .int .i64 0], .int .i64 0, .slice none 0 0], []⟩ 8 (by kernel_rfl) (by kernel_rfl) (by kernel_rfl) (by kernel_rfl)) ?_
  intro W base args ds gs before hval0 hW hcnd hsz0 _
  have hsz : (DataW.weightsEach Try.prog (Try.f10.params.toList ++ Rows.detectorRawSpec.plain.varTypes Try.prog) (ds ++ gs)).all (· ≤ reachBytes) = true := hsz0
  have hval : ∀ (j : Nat) t v, Try.f10.params[j]? = some t → args[j]? = some v → Value.okWide Try.prog W .any base t v := hval0
  have hW' := hW
  obtain ⟨p, q, hA0, hV, rfl, hfz, hnd⟩ := hW
  have hA : DataW.TrodAll enc Try.prog W 0 (fun _ => true) true Try.f10.params.toList args.toList ds p := hA0
  rw [Try.params10] at hA hval hsz
  obtain ⟨v0, vs0, d0, ds0, p0, q0, hargs, rfl, rfl, h0, r0⟩ := trodAll_cons hA
  obtain ⟨v1, vs1, d1, ds1, p1, q1, rfl, rfl, rfl, h1, r1⟩ := trodAll_cons r0
  obtain ⟨v2, vs2, d2, ds2, p2, q2, rfl, rfl, rfl, h2, r2⟩ := trodAll_cons r1
  obtain ⟨v3, vs3, d3, ds3, p3, q3, rfl, rfl, rfl, h3, r3⟩ := trodAll_cons r2
  obtain ⟨rfl, rfl, rfl⟩ := trodAll_nil r3
  obtain rfl : args = #[v0, v1, v2, v3] := by cases args; simp_all
  obtain ⟨rfl, rfl⟩ := trodVars_none hV
  have k0 := h0
  have lt0 : ∀ x ∈ p0, x.block < W.heap.size := by obtain ⟨m, hm⟩ := k0; exact DataW.trod_lt m _ _ _ hm
  obtain ⟨c0, tr0⟩ := arg_struct Try.underlying26 (by kernel_rfl) Fn.opens_enC (hval 0 26 v0 rfl rfl) h0
  have k1 := h1
  have lt1 : ∀ x ∈ p1, x.block < W.heap.size := by obtain ⟨m, hm⟩ := k1; exact DataW.trod_lt m _ _ _ hm
  obtain ⟨c1, tr1⟩ := arg_struct Try.underlying31 (by kernel_rfl) Fn.opens_enP (hval 1 31 v1 rfl rfl) h1
  obtain ⟨a2, rfl, rfl, rfl, w2⟩ := open_int Try.underlying3 (hval 2 3 v2 rfl rfl) h2
  obtain ⟨a3, len3, cap3, rfl⟩ := okWide_slice Try.underlying38 (hval 3 38 v3 rfl rfl)
  have k3 := h3
  have lt3 : ∀ x ∈ p3, x.block < W.heap.size := by obtain ⟨m, hm⟩ := k3; exact DataW.trod_lt m _ _ _ hm
  obtain ⟨z3, w3⟩ := rows_of (e := 31) Try.underlying38 (by kernel_rfl) Fn.opens_enP Fn.enP_len (by decide) h3
  have y3 : len3 * 32 ≤ 140737488351232 := sizedRows (e := 31) hsz (j := 3) (t := 38) rfl rfl Try.underlying38 (by kernel_rfl) h3
  have b3 : ∀ x, a3 = some x → x.block < W.heap.size := by rintro x rfl; exact okWide_block Try.underlying38 (hval 3 38 _ rfl rfl)
  clear hA0 hval0 hsz0 hsz
  obtain ⟨ars, has⟩ : ∃ ars, ars = ([argR Fn.enP a3 z3] : List (Option (List Cell))) := ⟨_, rfl⟩
  obtain ⟨ads, hads⟩ : ∃ ads, ads = ([a3] : List (Option Addr)) := ⟨_, rfl⟩
  have rel : HRel W.heap.size W (roE ads) (roH ars) W := by
    refine ro_rel (by rw [has, hads]; simp) fun j cs h => ?_
    subst has hads
    match j with
    | 0 =>
      obtain ⟨x, hx, hc⟩ := argR_cells w3 (by simpa using h)
      exact ⟨x, by simp [hx], b3 x hx, fun i c hi => hc _ i c hi⟩
    | j + 1 => simp at h
  obtain ⟨r, h', ⟨kk, hr⟩, he⟩ := Fn.k10 c0 c1 a2 (argC a3 len3 0) (z3.take len3) (roH ars) (argR_view w3 (j := 0) (by rw [has]; rfl)) (by rw [argR_len w3]; omega)
  subst he
  refine (calls_of Fn.fs_ok Fn.out_ok hr rel (lrel.cons (tr0 _) (lrel.cons (tr1 _) (lrel.cons (rfl) (lrel.cons (argR_rel w3 (j := 0) (by rw [hads]; rfl)) (lrel.nil))))) rfl).mono fun e W' ⟨he, bel⟩ => ?_
  subst he
  exact ⟨_, rfl, _, _, _, [], _, [], hW', trodAll_mk1 (shut_bool Try.underlying4 _), (trodAll_cons_mk (Below.trod laidOut (by kernel_rfl) (of_decide_eq_true (by kernel_rfl)) k0 bel lt0) (trodAll_cons_mk (Below.trod laidOut (by kernel_rfl) (of_decide_eq_true (by kernel_rfl)) k1 bel lt1) (trodAll_cons_mk (shut_int Try.underlying3 w2) (trodAll_cons_mk (Below.trod laidOut (by kernel_rfl) (of_decide_eq_true (by kernel_rfl)) k3 bel lt3) trodAll_mk0)))), rfl, bel.frame _, fun h => by cases h⟩
theorem over : Rows.detectorRawRow.holds Try.pinned (OpenSpec.ofChange Rows.detectorRawSpec) :=
  OpenClaim.holds_of_wide 10 Try.f10 rfl rfl rfl rfl rfl rfl rfl ⟨rfl, rfl, rfl, rfl, rfl⟩ rfl rfl rfl rfl rfl (by kernel_rfl) Try.func10 (by kernel_rfl)
    (of_decide_eq_true (by kernel_rfl)) (by unfold Func.isWrapper; first | (rw [if_pos (by decide +kernel)]; kernel_rfl) | (rw [if_neg (by decide +kernel)]; exact ⟨rfl, rfl⟩))
    (fun os started H enc _ => lifted os started H enc)
theorem proved : Rows.DetectorRawSaid := over
#print axioms proved
end Go.Proofs.Ytellgcahkpaldaa.detectorRaw
namespace Go.Proofs.Ytellgcahkpaldaa
/-- The row, under a short name, for the claim. -/
theorem detectorRaw_holds : Rows.DetectorRawSaid := detectorRaw.proved
end Go.Proofs.Ytellgcahkpaldaa
