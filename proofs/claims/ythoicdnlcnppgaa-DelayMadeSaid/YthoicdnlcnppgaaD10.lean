/- Contracts: Propagate; a made problem is valid. Conditions: none. -/
import Derived.Test.YthoicdnlcnppgaaD9
set_option linter.unusedVariables false
set_option linter.unusedSimpArgs false
namespace Go.Proofs.Ythoicdnlcnppgaa.Fn
open Go Go.Am
set_option maxRecDepth 100000
set_option maxHeartbeats 1000000
def vl {α : Type} (n : Nat) (f : Int → α) : List α := (List.range n).map fun v : Nat => f v
theorem vl_len {α : Type} {n : Nat} {f : Int → α} : (vl n f).length = n := by simp [vl]
theorem vl_get {α : Type} {n : Nat} {f : Int → α} {i : Nat} (h : i < (vl n f).length) : (vl n f)[i] = f i := by simp [vl]
theorem gZ_view {o : Nat → Option AObj} {n k q : Nat} {f : Int → Int} {e s fam : Nat} {ro : Bool} (h : o q = some (.cells fam ro e s (gZ k f))) (hq : q < n) : View o n (.slice q 0 k) enI (vl k f) :=
  .inr ⟨q, fam, ro, e, s, [], by rw [vl_len], hq, by rw [List.append_nil, h, gZ_rows]; rfl⟩
theorem gB_view {o : Nat → Option AObj} {n k q : Nat} {f : Int → Bool} {e s fam : Nat} {ro : Bool} (h : o q = some (.cells fam ro e s (gB k f))) (hq : q < n) : View o n (.slice q 0 k) enB (vl k f) :=
  .inr ⟨q, fam, ro, e, s, [], by rw [vl_len], hq, by rw [List.append_nil, h, gB_rows]; rfl⟩
theorem Made.valid {n : Nat} {m : List Mom} {w : List Wt} {p : List Pr} (M : Made n m w p) : Valid m w p := by
  obtain ⟨n6, ml, wl, pl, hm, hw, hp, pd⟩ := M
  subst ml
  refine ⟨by omega, by omega, by omega, fun x hx => within_iff.2 (by have := hm x hx; unfold okM at this; omega), fun x hx => ?_, fun x hx => ?_, pd, (List.range m.length).map fun v : Nat => (v : Int), ?_, by simp⟩
  · have h := hw x hx
    unfold okW at h
    refine ⟨⟨by omega, by omega, by omega, by omega⟩, by omega, within_iff.2 (by omega), ?_⟩
    by_cases e : x.ms = -1
    · exact .inl e
    · exact .inr (within_iff.2 (by omega))
  · have h := hp x hx
    unfold okR at h
    exact ⟨by omega, by omega, within_iff.2 (by omega)⟩
  · refine ⟨List.Pairwise.map _ (fun a b h e => h (by omega)) List.nodup_range, fun v hv => ?_, fun j hj x hx hxt => ?_, fun v h0 h1 _ => ?_⟩
    · simp at hv; obtain ⟨a, ha, rfl⟩ := hv; omega
    · simp at hj hxt
      have h := hw x hx
      unfold okW at h
      rw [← List.map_take, List.take_range, Nat.min_eq_left (by omega)]
      simp only [List.mem_map, List.mem_range]
      exact ⟨x.f.toNat, by omega, by omega⟩
    · simp only [List.mem_map, List.mem_range]
      exact ⟨v.toNat, by omega, by omega⟩
/-- The results of Propagate. -/
def PropR (m : List Mom) (w : List Wt) (p : List Pr) (r : T) (h' : AH) : Prop :=
  (¬ Valid m w p ∧ r = .tup [.one .nils, .one .nils, .one (.int .i64 1)]) ∨ ∃ y z b a kp, Valid m w p ∧ PropQ m w p b a kp ∧ r = .tup [.one y, .one z, .one (.int .i64 0)] ∧ View h'.o h'.nx y enI (vl m.length a) ∧ View h'.o h'.nx z enB (vl w.length kp)
theorem k13 (xm xw xp : Cell) (m : List Mom) (w : List Wt) (p : List Pr) (h : AH) (vm : View h.o h.nx xm enM m) (vw : View h.o h.nx xw enW w) (vp : View h.o h.nx xp enPr p)
    (hm : m.length < 9223372036854775807) (hw : w.length < 9223372036854775807) (hp : p.length < 9223372036854775807) :
    wF fs out 13 [.v (.one xm), .v (.one xw), .v (.one xp)] h fun r h' => PropR m w p r h' ∧ h.le h' := by
  refine wF_fn fs13 rfl fun Q hQ => ?_
  refine s13_0 ?_
  simp -implicitDefEqProofs (disch := constructor; omega) [↓h13_1]
  refine s13_2 ?_
  refine s13_3 ?_
  simp -implicitDefEqProofs (disch := constructor; omega) [↓h13_4, ↓h13_4_1]
  refine wF_mono (k22 xm xw xp m w p _ (vm.keep (by simp -implicitDefEqProofs (disch := constructor; omega) <;> omega) fun i hi => by simp -implicitDefEqProofs (disch := constructor; omega)) (vw.keep (by simp -implicitDefEqProofs (disch := constructor; omega) <;> omega) fun i hi => by simp -implicitDefEqProofs (disch := constructor; omega)) (vp.keep (by simp -implicitDefEqProofs (disch := constructor; omega) <;> omega) fun i hi => by simp -implicitDefEqProofs (disch := constructor; omega)) hm hw hp) ?_
  rintro _ h1 ⟨b, rfl, hb, hle1⟩
  obtain ⟨hn1, ho1⟩ := hle1
  (try dsimp only at hn1 ho1)
  (try simp -implicitDefEqProofs (disch := constructor; omega) [↓h13_4, ↓h13_4_1])
  refine s13_5 ?_
  simp -implicitDefEqProofs (disch := constructor; omega)
  cases b with
  | false =>
    (try simp -implicitDefEqProofs (disch := constructor; omega))
    refine s13_6 ?_
    simp -implicitDefEqProofs (disch := constructor; omega) [↓h13_7]
    refine hQ _ _ _ (.inr rfl) (by simp only [resc, resv, List.mapM_cons, List.mapM_nil, a13]; simp -implicitDefEqProofs (disch := constructor; omega); rfl) ⟨.inl ⟨by simpa using hb, rfl⟩, (by (try dsimp only [keepOnly_eq]); omega), fun i hi => ?_⟩
    (try simp -implicitDefEqProofs (disch := constructor; omega))
    rw [ho1 i (by omega)]
  | true =>
    have V := hb.1 rfl
    have low1 : ∀ i, i < h.nx → h1.o i = h.o i := fun i hi => by rw [ho1 i (by omega)]
    (try simp -implicitDefEqProofs (disch := constructor; omega))
    refine s13_8 ?_
    simp -implicitDefEqProofs (disch := constructor; omega) [↓h13_9, ↓h13_9_1]
    refine wF_mono (k28 xm xw xp m w p _ (vm.keep (by (try dsimp only [keepOnly_eq]); omega) low1) (vw.keep (by (try dsimp only [keepOnly_eq]); omega) low1) (vp.keep (by (try dsimp only [keepOnly_eq]); omega) low1) V) ?_
    rintro _ h2 ⟨q0, q1, q2, b, a, kp, rfl, P, hq0, hq1, hq2, hq3, o0, o1, o2, hn2, ho2⟩
    (try dsimp only at hn2 ho2 hq0)
    (try simp -implicitDefEqProofs (disch := constructor; omega) [↓h13_9, ↓h13_9_1])
    refine s13_10 ?_
    simp -implicitDefEqProofs (disch := constructor; omega) [↓h13_11]
    refine hQ _ _ _ (.inr rfl) (by simp only [resc, resv, List.mapM_cons, List.mapM_nil, a13]; simp -implicitDefEqProofs (disch := constructor; omega); rfl) ⟨.inr ⟨.slice q1 0 m.length, .slice q2 0 w.length, b, a, kp, V, P, rfl, gZ_view (Eq.trans (b := h2.o q1) (by simp -implicitDefEqProofs (disch := constructor; omega)) o1) (by (try dsimp only [keepOnly_eq]); omega), gB_view (Eq.trans (b := h2.o q2) (by simp -implicitDefEqProofs (disch := constructor; omega)) o2) (by (try dsimp only [keepOnly_eq]); omega)⟩, (by (try dsimp only [keepOnly_eq]); omega), fun i hi => ?_⟩
    (try simp -implicitDefEqProofs (disch := constructor; omega))
    rw [ho2 i (by omega), low1 i hi]
end Go.Proofs.Ythoicdnlcnppgaa.Fn
