/- Contracts: numbers and sources. Conditions: none. -/
import Derived.Test.YthoicdnlcnppgaaFn
set_option linter.unusedVariables false
set_option linter.unusedSimpArgs false
namespace Go.Proofs.Ythoicdnlcnppgaa.Fn
open Go Go.Am
set_option maxRecDepth 100000
set_option maxHeartbeats 1000000
theorem k15 (v n : Int) (h1 : 1 ≤ n) (h2 : n ≤ 1000000000000) (h : AH) : wF fs out 15 [.v (.one (.int .i64 v)), .v (.one (.int .i64 n))] h fun r h' => r = .v (.one (.int .i64 (pickN v n))) ∧ h.le h' := by
  have e : IntKind.u64.wrap n = n := by rw [wrapu64]; omega
  have h0 : 0 ≤ IntKind.u64.wrap v := by rw [wrapu64]; omega
  have hp := pickN_range v h1
  refine wF_call fs15 rfl ?_
  refine s15_0 ?_
  simp -implicitDefEqProofs (disch := constructor; omega) [↓h15_1, e, show ¬ n = 0 by omega, Int.tmod_eq_emod_of_nonneg h0]
  refine s15_2 ?_
  simp -implicitDefEqProofs (disch := constructor; omega) [↓h15_3, e, show ¬ n = 0 by omega, Int.tmod_eq_emod_of_nonneg h0]
  (try simp -implicitDefEqProofs (disch := constructor; omega) [a15])
  refine ⟨wrap64 (by unfold pickN at hp; omega) (by unfold pickN at hp; omega), AH.le_mk (by omega) fun j hj => rfl⟩
theorem k26 (x : Cell) (hx : x ≠ .junk) (h : AH) : wF fs out 26 [.v (.one x)] h fun r h' => ∃ j, r = .v (.one (.ptr j 0)) ∧ h.nx ≤ j ∧ j < h'.nx ∧ h'.o j = some (.cells j false 67 0 [x, .int .i64 0]) ∧ h.le h' := by
  refine wF_call fs26 rfl ?_
  refine s26_0 ?_
  simp -implicitDefEqProofs (disch := constructor; omega) [↓h26_1, hx]
  refine s26_2 ?_
  simp -implicitDefEqProofs (disch := constructor; omega) [↓h26_3, hx]
  (try simp -implicitDefEqProofs (disch := constructor; omega) [a26])
  exact ⟨by omega, AH.le_mk (by omega) fun i hi => by simp -implicitDefEqProofs (disch := constructor; omega)⟩
def srcV (l : List Int) (pos : Nat) (n : Int) : Int := if pos < l.length then pickN (l.getD pos 0) n else 0
theorem k27 (x : Cell) (l : List Int) (j pos : Nat) (n : Int) (h1 : 1 ≤ n) (h2 : n ≤ 1000000000000) (h : AH) (hj : j < h.nx) (ho : h.o j = some (.cells j false 67 0 [x, .int .i64 pos]))
    (hl : View h.o h.nx x enI l) (hx : ∀ i o n, x = .slice i o n → i ≠ j) (hlen : l.length < 9223372036854775807) (hp : pos ≤ l.length) :
    wF fs out 27 [.v (.one (.ptr j 0)), .v (.one (.int .i64 n))] h fun r h' => r = .v (.one (.int .i64 (srcV l pos n))) ∧ h.nx ≤ h'.nx ∧ ∀ i, i < h.nx → h'.o i = if i = j then some (.cells j false 67 0 [x, .int .i64 (if pos < l.length then pos + 1 else pos : Nat)]) else h.o i := by
  refine wF_fn fs27 rfl fun Q hQ => ?_
  rcases hl.len with ⟨rfl, hl0⟩ | ⟨i0, rfl⟩
  · refine s27_0 ?_
    simp -implicitDefEqProofs (disch := constructor; omega) [↓h27_1, ho]
    refine s27_2 ?_
    refine s27_3 ?_
    simp -implicitDefEqProofs (disch := constructor; omega) [↓h27_4, ho]
    refine s27_5 ?_
    simp -implicitDefEqProofs (disch := constructor; omega) [ho]
    refine s27_6 ?_
    simp -implicitDefEqProofs (disch := constructor; omega) [↓h27_7]
    refine hQ _ _ _ (.inr rfl) rfl ⟨by simp -implicitDefEqProofs (disch := constructor; omega); unfold srcV; rw [if_neg (by omega)], (by (try dsimp only [keepOnly_eq]); omega), ?_⟩
    intro i hi; split
    · rename_i e; subst e; rw [if_neg (by omega)]; exact ho
    · rfl
  · refine s27_0 ?_
    simp -implicitDefEqProofs (disch := constructor; omega) [↓h27_1, ho]
    refine s27_2 ?_
    refine s27_3 ?_
    simp -implicitDefEqProofs (disch := constructor; omega) [↓h27_4, ho]
    refine s27_5 ?_
    simp -implicitDefEqProofs (disch := constructor; omega) [ho]
    split
    · refine s27_6 ?_
      simp -implicitDefEqProofs (disch := constructor; omega) [↓h27_7]
      refine hQ _ _ _ (.inr rfl) rfl ⟨by simp -implicitDefEqProofs (disch := constructor; omega); unfold srcV; rw [if_neg (by omega)], (by (try dsimp only [keepOnly_eq]); omega), ?_⟩
      intro i hi; split
      · rename_i e; subst e; rw [if_neg (by omega)]; exact ho
      · rfl
    · rename_i hlt
      obtain ⟨_, f, ro, e, s, cs, hxx, hj', ho', hl', hg⟩ := hl.get1 (g := Cell.int .i64) (fun _ => rfl) (show pos < l.length by omega)
      cases hxx
      have hij := hx _ _ _ rfl
      have w1 := wrap64 (show -9223372036854775808 ≤ (pos : Int) + 1 by omega) (by omega)
      have w2 := wrap64 (show -9223372036854775808 ≤ (pos : Int) by omega) (by omega)
      have hlt2 : pos < l.length := by omega
      refine s27_8 ?_
      simp -implicitDefEqProofs (disch := constructor; omega) [↓h27_9, ho, w1, hij, ho', hg, w2, hlt2, hl']
      refine s27_10 ?_
      simp -implicitDefEqProofs (disch := constructor; omega) [↓h27_11, ↓h27_11_1, ↓h27_11_2, ho, w1, hij, ho', hg, w2, hlt2, hl']
      refine wF_mono (k15 _ n h1 h2 _) ?_
      rintro _ h' ⟨rfl, hle⟩
      obtain ⟨hn, hle⟩ := hle
      (try dsimp only at hn hle)
      (try simp -implicitDefEqProofs (disch := constructor; omega) [↓h27_11, ↓h27_11_1, ↓h27_11_2])
      refine hQ _ _ _ (.inr rfl) rfl ⟨by simp -implicitDefEqProofs (disch := constructor; omega); unfold srcV; rw [if_pos hlt2]; simp [hlt2], (by (try dsimp only [keepOnly_eq]); omega), fun i hi => ?_⟩
      rw [if_pos hlt2, hle i (by omega), upd_app, Int.natCast_add]; rfl
/-- A source of numbers: object j; what it reads lies below lo. -/
def Src (h : AH) (lo j : Nat) : Prop := ∃ (x : Cell) (l : List Int) (pos : Nat), View h.o lo x enI l ∧ lo ≤ j ∧ j < h.nx ∧ h.o j = some (.cells j false 67 0 [x, .int .i64 pos]) ∧ l.length < 9223372036854775807 ∧ pos ≤ l.length
theorem Src.keep {h h' : AH} {lo j : Nat} (S : Src h lo j) (hn : h.nx ≤ h'.nx) (ho : ∀ i, i < lo ∨ i = j → h'.o i = h.o i) : Src h' lo j := by
  obtain ⟨x, l, p, v, a, b, c, d⟩ := S
  exact ⟨x, l, p, v.keep (Nat.le_refl _) (fun i hi => ho i (.inl hi)), a, by omega, by rw [ho j (.inr rfl)]; exact c, d⟩
theorem Src.lt {h : AH} {lo j : Nat} (S : Src h lo j) : lo ≤ j ∧ j < h.nx := by
  obtain ⟨x, l, p, v, a, b, _⟩ := S
  exact ⟨a, b⟩
theorem Src.own {h : AH} {lo j : Nat} (S : Src h lo j) {f e w : Nat} {cs : List Cell} : h.o j ≠ some (.cells f false e (w + 1) cs) := by
  obtain ⟨x, l, p, v, a, b, c, _⟩ := S
  rw [c]; simp
theorem k26s (x : Cell) (l : List Int) (h : AH) (lo : Nat) (v : View h.o lo x enI l) (hlo : lo ≤ h.nx) (hlen : l.length < 9223372036854775807) :
    wF fs out 26 [.v (.one x)] h fun r h' => ∃ j, r = .v (.one (.ptr j 0)) ∧ h.nx ≤ j ∧ Src h' lo j ∧ h.le h' := by
  have hxj : x ≠ .junk := by rcases v.len with ⟨rfl, _⟩ | ⟨j, rfl⟩ <;> simp
  refine wF_mono (k26 x hxj h) ?_
  rintro _ h1 ⟨j, rfl, hj1, hj2, hj, hle⟩
  exact ⟨j, rfl, hj1, ⟨x, l, 0, v.keep (Nat.le_refl _) (fun i hi => hle.2 i (by omega)), by omega, hj2, hj, hlen, by omega⟩, hle⟩
theorem k27s (n : Int) (h1 : 1 ≤ n) (h2 : n ≤ 1000000000000) (lo j : Nat) (h : AH) (S : Src h lo j) :
    wF fs out 27 [.v (.one (.ptr j 0)), .v (.one (.int .i64 n))] h fun r h' => (∃ v, r = .v (.one (.int .i64 v)) ∧ 0 ≤ v ∧ v < n) ∧ Src h' lo j ∧ h.nx ≤ h'.nx ∧ ∀ i, i < h.nx → i ≠ j → h'.o i = h.o i := by
  obtain ⟨x, l, p, v, a, b, c, d, e⟩ := S
  refine wF_mono (k27 x l j p n h1 h2 h b c (v.keep (by omega) fun _ _ => rfl) ?_ d e) ?_
  · rintro i o m rfl
    rcases v with ⟨hx, _⟩ | ⟨_, _, _, _, _, _, hx, hi, _⟩ <;> cases hx
    omega
  · rintro _ h' ⟨rfl, hn, ho⟩
    have hr := pickN_range (l.getD p 0) h1
    refine ⟨⟨_, rfl, by unfold srcV; split <;> omega, by unfold srcV; split <;> omega⟩, ⟨x, l, if p < l.length then p + 1 else p, v.keep (Nat.le_refl _) fun i hi => ?_, a, by omega, ?_, d, by split <;> omega⟩, hn, fun i hi hij => ?_⟩
    · rw [ho i (by omega), if_neg (by omega)]
    · rw [ho j b, if_pos rfl]
    · rw [ho i hi, if_neg hij]
end Go.Proofs.Ythoicdnlcnppgaa.Fn
