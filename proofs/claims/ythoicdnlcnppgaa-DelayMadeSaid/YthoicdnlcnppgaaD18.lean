/- Plain: results that are the same. Conditions: none. -/
import Derived.Test.YthoicdnlcnppgaaD17
set_option linter.unusedVariables false
set_option linter.unusedSimpArgs false
namespace Go.Proofs.Ythoicdnlcnppgaa.Fn
open Go Go.Am
theorem PropR.pair {m : List Mom} {w : List Wt} {p : List Pr} {r1 r2 : T} {h1 h2 : AH} (R1 : PropR m w p r1 h1) (R2 : PropR m w p r2 h2) :
    ∃ y1 z1 y2 z2 e ls ks, r1 = .tup [.one y1, .one z1, .one (.int .i64 e)] ∧ r2 = .tup [.one y2, .one z2, .one (.int .i64 e)] ∧ View h1.o h1.nx y1 enI ls ∧ View h1.o h1.nx z1 enB ks ∧ View h2.o h2.nx y2 enI ls ∧ View h2.o h2.nx z2 enB ks ∧ ls.length ≤ 64 ∧ ks.length ≤ 200 := by
  rcases R1 with ⟨V1, rfl⟩ | ⟨y1, z1, b1, a1, kp1, V1, P1, rfl, v1, u1⟩
  · rcases R2 with ⟨V2, rfl⟩ | ⟨y2, z2, b2, a2, kp2, V2, P2, rfl, v2, u2⟩
    · exact ⟨_, _, _, _, _, [], [], rfl, rfl, .inl ⟨rfl, rfl⟩, .inl ⟨rfl, rfl⟩, .inl ⟨rfl, rfl⟩, .inl ⟨rfl, rfl⟩, by simp, by simp⟩
    · exact absurd V2 V1
  · rcases R2 with ⟨V2, rfl⟩ | ⟨y2, z2, b2, a2, kp2, V2, P2, rfl, v2, u2⟩
    · exact absurd V1 V2
    · obtain ⟨e1, e2⟩ := P1.uniq P2 V1
      have ea : vl m.length a2 = vl m.length a1 := List.map_congr_left fun v hv => ((e1 v (by omega) (by simpa using hv)).2).symm
      have ek : vl w.length kp2 = vl w.length kp1 := List.map_congr_left fun v hv => (e2 v (by simpa using hv)).symm
      rw [ea] at v2
      rw [ek] at u2
      exact ⟨_, _, _, _, _, _, _, rfl, rfl, v1, u1, v2, u2, by rw [vl_len]; exact V1.ml, by rw [vl_len]; exact V1.wl⟩
theorem PropR.shape {m : List Mom} {w : List Wt} {p : List Pr} {r : T} {h : AH} (R : PropR m w p r h) : ∃ y z e, r = .tup [.one y, .one z, .one (.int .i64 e)] := by
  rcases R with ⟨_, rfl⟩ | ⟨y, z, _, _, _, _, _, rfl, _⟩
  · exact ⟨_, _, _, rfl⟩
  · exact ⟨_, _, _, rfl⟩
theorem CauseR.shape {m : List Mom} {w : List Wt} {p : List Pr} {i : Int} {r : T} {h : AH} (R : CauseR m w p i r h) : ∃ y e, r = .tup [.one y, .one (.int .i64 e)] := by
  rcases R with ⟨_, rfl⟩ | ⟨_, _, rfl⟩ | ⟨y, _, _, _, _, _, _, rfl, _⟩
  · exact ⟨_, _, rfl⟩
  · exact ⟨_, _, rfl⟩
  · exact ⟨_, _, rfl⟩
theorem Ch.len {m : List Mom} {w : List Wt} {b a : Int → Int} {kp : Int → Bool} {i : Int} {l r : List Int} {n : Nat} (S : SortQ n w r) (C : Ch m w b a kp i l) : ∀ idx (h : idx < r.length), r[idx] = i → l.length ≤ idx := by
  induction C with
  | nil _ => intros; simp
  | @cons i k l hk h1 h2 _ ih =>
    intro idx h e
    obtain ⟨_, ht, _⟩ := h1
    have hm := S.tp idx h _ (List.getElem_mem hk) (ht.trans e.symm)
    obtain ⟨idx', hx, hx'⟩ := List.mem_iff_getElem.1 hm
    simp only [List.length_take] at hx
    rw [List.getElem_take] at hx'
    have := ih idx' (by omega) hx'
    simp; omega
theorem Ch.lt {m : List Mom} {w : List Wt} {p : List Pr} {b a : Int → Int} {kp : Int → Bool} {i : Int} {l : List Int} (C : Ch m w b a kp i l) (V : Valid m w p) (h0 : 0 ≤ i) (h1 : i < m.length) : l.length < m.length := by
  obtain ⟨r, S, hr⟩ := V.s
  obtain ⟨idx, hx, hx'⟩ := List.mem_iff_getElem.1 (S.all hr i h0 h1)
  have := C.len S idx hx hx'
  omega
theorem CauseR.pair {m : List Mom} {w : List Wt} {p : List Pr} {i : Int} {r1 r2 : T} {h1 h2 : AH} (R1 : CauseR m w p i r1 h1) (R2 : CauseR m w p i r2 h2) :
    ∃ y1 y2 e ls, r1 = .tup [.one y1, .one (.int .i64 e)] ∧ r2 = .tup [.one y2, .one (.int .i64 e)] ∧ View h1.o h1.nx y1 enI ls ∧ View h2.o h2.nx y2 enI ls ∧ ls.length ≤ 64 := by
  rcases R1 with ⟨V1, rfl⟩ | ⟨V1, I1, rfl⟩ | ⟨y1, l1, b1, a1, kp1, V1, I1, rfl, v1, P1, C1⟩
  · rcases R2 with ⟨V2, rfl⟩ | ⟨V2, I2, rfl⟩ | ⟨y2, l2, b2, a2, kp2, V2, I2, rfl, v2, P2, C2⟩
    · exact ⟨_, _, _, [], rfl, rfl, .inl ⟨rfl, rfl⟩, .inl ⟨rfl, rfl⟩, by simp⟩
    · exact absurd V2 V1
    · exact absurd V2 V1
  · rcases R2 with ⟨V2, rfl⟩ | ⟨V2, I2, rfl⟩ | ⟨y2, l2, b2, a2, kp2, V2, I2, rfl, v2, P2, C2⟩
    · exact absurd V1 V2
    · exact ⟨_, _, _, [], rfl, rfl, .inl ⟨rfl, rfl⟩, .inl ⟨rfl, rfl⟩, by simp⟩
    · exact absurd I2 I1
  · rcases R2 with ⟨V2, rfl⟩ | ⟨V2, I2, rfl⟩ | ⟨y2, l2, b2, a2, kp2, V2, I2, rfl, v2, P2, C2⟩
    · exact absurd V1 V2
    · exact absurd I1 I2
    · obtain ⟨e1, e2⟩ := P1.uniq P2 V1
      have hw : ∀ x ∈ w, inW m.length x := fun x hx => (V1.ww x hx).1
      have C1' := C1.congr hw e1 e2 I1.1 I1.2
      have := C1'.uniq _ C2
      subst this
      have := C1.lt V1 I1.1 I1.2
      have := V1.ml
      exact ⟨_, _, _, _, rfl, rfl, v1, v2, by omega⟩
end Go.Proofs.Ythoicdnlcnppgaa.Fn
