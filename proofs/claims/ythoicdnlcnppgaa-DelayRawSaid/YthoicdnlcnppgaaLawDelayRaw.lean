/- DelayRaw: the row, from its contract. Conditions: none. -/
import Derived.Test.YthoicdnlcnppgaaRows
import Derived.Test.YthoicdnlcnppgaaL8
import Derived.Test.YthoicdnlcnppgaaAmRs
import Derived.WalkKit
import Derived.ProofKit
import Derived.OpenShut
import Derived.ShutString
import Derived.ChangeOld
import Derived.Below
import Derived.SizedLaws
namespace Go.Proofs.Ythoicdnlcnppgaa.delayRaw
open Go.ChangeShapes Go.WideShapes Go.ChangeAt Go.RowKit Go.Am
open Go.ChangeMaps (open_string shut_string)
set_option linter.unusedVariables false
set_option linter.unusedSimpArgs false
theorem opens_enM : Opens [true, false] Fn.enM := by
  intro cs h
  match cs, h with
  | [.int .i64 n, .bool b], h => exact ⟨⟨n, b⟩, rfl⟩
theorem opens_enW : Opens [true, true, true, true] Fn.enW := by
  intro cs h
  match cs, h with
  | [.int .i64 n, .int .i64 a, .int .i64 b, .int .i64 c], h => exact ⟨⟨n, a, b, c⟩, rfl⟩
theorem opens_enPr : Opens [true, true] Fn.enPr := by
  intro cs h
  match cs, h with
  | [.int .i64 n, .int .i64 a], h => exact ⟨⟨n, a⟩, rfl⟩
theorem own : ownKnob Try.prog.godebug = none := by kernel_rfl
theorem laidOut : laidOutB Try.prog = true := by kernel_rfl
set_option maxRecDepth 100000 in
theorem lifted (os : Os) (started : os.Started) (H : Type) (enc : TypeId × Value → H) :
    ReturnsInHanded {} Try.checked os 8 .any (Rows.delayRawSpec.pre6 enc Try.prog Try.f8 Rows.delayRawRow.domain false) (Rows.delayRawSpec.post enc Try.prog Try.f8 false true false false) := by
  refine returnsInHanded_of_change_sized (C := Try.checked) own started (by kernel_rfl) Try.func8
    (ChangeSpec.witness6 (enc := enc) (C := Try.checked) false ⟨#[], #[.slice none 0 0, .slice none 0 0, .slice none 0 0, .int .i64 0], []⟩ 8 (by kernel_rfl) (by kernel_rfl) (by kernel_rfl) (by kernel_rfl)) ?_
  intro W base args ds gs before hval0 hW hcnd hsz0 _
  have hsz : (DataW.weightsEach Try.prog (Try.f8.params.toList ++ Rows.delayRawSpec.plain.varTypes Try.prog) (ds ++ gs)).all (· ≤ reachBytes) = true := hsz0
  have hval : ∀ (j : Nat) t v, Try.f8.params[j]? = some t → args[j]? = some v → Value.okWide Try.prog W .any base t v := hval0
  have hW' := hW
  obtain ⟨p, q, hA0, hV, rfl, hfz, hnd⟩ := hW
  have hA : DataW.TrodAll enc Try.prog W 0 (fun _ => true) true Try.f8.params.toList args.toList ds p := hA0
  rw [Try.params8] at hA hval hsz
  obtain ⟨v0, vs0, d0, ds0, p0, q0, hargs, rfl, rfl, h0, r0⟩ := trodAll_cons hA
  obtain ⟨v1, vs1, d1, ds1, p1, q1, rfl, rfl, rfl, h1, r1⟩ := trodAll_cons r0
  obtain ⟨v2, vs2, d2, ds2, p2, q2, rfl, rfl, rfl, h2, r2⟩ := trodAll_cons r1
  obtain ⟨v3, vs3, d3, ds3, p3, q3, rfl, rfl, rfl, h3, r3⟩ := trodAll_cons r2
  obtain ⟨rfl, rfl, rfl⟩ := trodAll_nil r3
  obtain rfl : args = #[v0, v1, v2, v3] := by cases args; simp_all
  obtain ⟨rfl, rfl⟩ := trodVars_none hV
  obtain ⟨a0, len0, cap0, rfl⟩ := okWide_slice Try.underlying23 (hval 0 23 v0 rfl rfl)
  have k0 := h0
  have lt0 : ∀ x ∈ p0, x.block < W.heap.size := by obtain ⟨m, hm⟩ := k0; exact DataW.trod_lt m _ _ _ hm
  obtain ⟨z0, w0⟩ := rows_of (e := 33) Try.underlying23 (by kernel_rfl) opens_enM Fn.enM_len (by decide) h0
  have y0 : len0 * 16 ≤ 140737488351232 := sizedRows (e := 33) hsz (j := 0) (t := 23) rfl rfl Try.underlying23 (by kernel_rfl) h0
  have b0 : ∀ x, a0 = some x → x.block < W.heap.size := by rintro x rfl; exact okWide_block Try.underlying23 (hval 0 23 _ rfl rfl)
  obtain ⟨a1, len1, cap1, rfl⟩ := okWide_slice Try.underlying24 (hval 1 24 v1 rfl rfl)
  have k1 := h1
  have lt1 : ∀ x ∈ p1, x.block < W.heap.size := by obtain ⟨m, hm⟩ := k1; exact DataW.trod_lt m _ _ _ hm
  obtain ⟨z1, w1⟩ := rows_of (e := 35) Try.underlying24 (by kernel_rfl) opens_enW Fn.enW_len (by decide) h1
  have y1 : len1 * 32 ≤ 140737488351232 := sizedRows (e := 35) hsz (j := 1) (t := 24) rfl rfl Try.underlying24 (by kernel_rfl) h1
  have b1 : ∀ x, a1 = some x → x.block < W.heap.size := by rintro x rfl; exact okWide_block Try.underlying24 (hval 1 24 _ rfl rfl)
  obtain ⟨a2, len2, cap2, rfl⟩ := okWide_slice Try.underlying25 (hval 2 25 v2 rfl rfl)
  have k2 := h2
  have lt2 : ∀ x ∈ p2, x.block < W.heap.size := by obtain ⟨m, hm⟩ := k2; exact DataW.trod_lt m _ _ _ hm
  obtain ⟨z2, w2⟩ := rows_of (e := 39) Try.underlying25 (by kernel_rfl) opens_enPr Fn.enPr_len (by decide) h2
  have y2 : len2 * 16 ≤ 140737488351232 := sizedRows (e := 39) hsz (j := 2) (t := 25) rfl rfl Try.underlying25 (by kernel_rfl) h2
  have b2 : ∀ x, a2 = some x → x.block < W.heap.size := by rintro x rfl; exact okWide_block Try.underlying25 (hval 2 25 _ rfl rfl)
  obtain ⟨a3, rfl, rfl, rfl, w3⟩ := open_int Try.underlying3 (hval 3 3 v3 rfl rfl) h3
  clear hA0 hval0 hsz0 hsz
  obtain ⟨ars, has⟩ : ∃ ars, ars = ([argR Fn.enM a0 z0, argR Fn.enW a1 z1, argR Fn.enPr a2 z2] : List (Option (List Cell))) := ⟨_, rfl⟩
  obtain ⟨ads, hads⟩ : ∃ ads, ads = ([a0, a1, a2] : List (Option Addr)) := ⟨_, rfl⟩
  have rel : HRel W.heap.size W (roE ads) (roH ars) W := by
    refine ro_rel (by rw [has, hads]; simp) fun j cs h => ?_
    subst has hads
    match j with
    | 0 =>
      obtain ⟨x, hx, hc⟩ := argR_cells w0 (by simpa using h)
      exact ⟨x, by simp [hx], b0 x hx, fun i c hi => hc _ i c hi⟩
    | 1 =>
      obtain ⟨x, hx, hc⟩ := argR_cells w1 (by simpa using h)
      exact ⟨x, by simp [hx], b1 x hx, fun i c hi => hc _ i c hi⟩
    | 2 =>
      obtain ⟨x, hx, hc⟩ := argR_cells w2 (by simpa using h)
      exact ⟨x, by simp [hx], b2 x hx, fun i c hi => hc _ i c hi⟩
    | j + 3 => simp at h
  obtain ⟨r, h', ⟨kk, hr⟩, he⟩ := Fn.k8 (argC a0 len0 0) (argC a1 len1 1) (argC a2 len2 2) (z0.take len0) (z1.take len1) (z2.take len2) a3 (roH ars) (argR_view w0 (j := 0) (by rw [has]; rfl)) (argR_view w1 (j := 1) (by rw [has]; rfl)) (argR_view w2 (j := 2) (by rw [has]; rfl)) (by rw [argR_len w0]; omega) (by rw [argR_len w1]; omega) (by rw [argR_len w2]; omega)
  subst he
  refine (calls_of Fn.fl8_ok Fn.out_ok hr rel (lrel.cons (argR_rel w0 (j := 0) (by rw [hads]; rfl)) (lrel.cons (argR_rel w1 (j := 1) (by rw [hads]; rfl)) (lrel.cons (argR_rel w2 (j := 2) (by rw [hads]; rfl)) (lrel.cons (rfl) (lrel.nil))))) rfl).mono fun e W' ⟨he, bel⟩ => ?_
  subst he
  exact ⟨_, rfl, _, _, _, [], _, [], hW', trodAll_mk1 (shut_bool Try.underlying4 _), (trodAll_cons_mk (Below.trod laidOut (by kernel_rfl) (of_decide_eq_true (by kernel_rfl)) k0 bel lt0) (trodAll_cons_mk (Below.trod laidOut (by kernel_rfl) (of_decide_eq_true (by kernel_rfl)) k1 bel lt1) (trodAll_cons_mk (Below.trod laidOut (by kernel_rfl) (of_decide_eq_true (by kernel_rfl)) k2 bel lt2) (trodAll_cons_mk (shut_int Try.underlying3 w3) trodAll_mk0)))), rfl, bel.frame _, fun h => by cases h⟩
theorem over : Rows.delayRawRow.holds Try.pinned (OpenSpec.ofChange Rows.delayRawSpec) :=
  OpenClaim.holds_of_wide 8 Try.f8 rfl rfl rfl rfl rfl rfl rfl ⟨rfl, rfl, rfl, rfl, rfl⟩ rfl rfl rfl rfl rfl (by kernel_rfl) Try.func8 (by kernel_rfl)
    (of_decide_eq_true (by kernel_rfl)) (by unfold Func.isWrapper; first | (rw [if_pos (by decide +kernel)]; kernel_rfl) | (rw [if_neg (by decide +kernel)]; exact ⟨rfl, rfl⟩))
    (fun os started H enc _ => lifted os started H enc)
theorem proved : Rows.DelayRawSaid := over
#print axioms proved
end Go.Proofs.Ythoicdnlcnppgaa.delayRaw
namespace Go.Proofs.Ythoicdnlcnppgaa
/-- The row, under a short name, for the claim. -/
theorem delayRaw_holds : Rows.DelayRawSaid := delayRaw.proved
end Go.Proofs.Ythoicdnlcnppgaa
