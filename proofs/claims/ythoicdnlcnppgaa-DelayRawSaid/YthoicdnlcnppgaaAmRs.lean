/- Arguments that are structs, and slices of such. Conditions: as each theorem says. -/
import Derived.Test.YthoicdnlcnppgaaAmRw
import Derived.ChangeArms
import Derived.DataReads
import Derived.DataElems
set_option linter.unusedVariables false
set_option linter.unusedSimpArgs false
namespace Go.Am
open Go.RowKit
open Go.ChangeShapes Go.WideShapes
/-! ### Arguments that are structs of numbers and truths, and slices of such -/
def flatB (P : Program) (t : TypeId) (sh : List Bool) : Bool := match P.underlying t with
  | some (.struct fs) => fs.size == sh.length && (P.cellsOf t == sh.length && (List.range sh.length).all fun i => match fs[i]?, sh[i]? with
    | some f, some s => f.offset == i && (P.cellsOf f.type == 1 && (match P.underlying f.type, s with
      | some (.int .i64), true => true
      | some .bool, false => true
      | _, _ => false))
    | _, _ => false)
  | some (.int .i64) => P.cellsOf t == 1 && sh == [true]
  | some .bool => P.cellsOf t == 1 && sh == [false]
  | _ => false
def okV : Bool → Value → Prop
  | true, v => ∃ n, v = .int .i64 n ∧ (Lit.int .i64 n).wf = true
  | false, v => ∃ b, v = .bool b
def FlatV (sh : List Bool) (vs : List Value) : Prop := vs.length = sh.length ∧ ∀ (i : Nat) s, sh[i]? = some s → ∃ v, vs[i]? = some v ∧ okV s v
section
variable {H : Type} {enc : TypeId × Value → H} {P : Program} {w : World} {base : Nat} {spare : Nat → Bool} {held : Bool}
theorem flat_cells {t : TypeId} {sh : List Bool} (hB : flatB P t sh = true) : P.cellsOf t = sh.length := by
  unfold flatB at hB
  split at hB
  · simp only [Bool.and_eq_true, beq_iff_eq] at hB; exact hB.2.1
  · simp only [Bool.and_eq_true, beq_iff_eq] at hB; rw [hB.1, hB.2]; rfl
  · simp only [Bool.and_eq_true, beq_iff_eq] at hB; rw [hB.1, hB.2]; rfl
  · cases hB
theorem trod_flat {t : TypeId} {sh : List Bool} {fuel : Nat} {cs : List Value} {x : DataW H × List MemPlace} (hB : flatB P t sh = true) (h : DataW.trod enc P w base spare held fuel t cs = some x) : FlatV sh cs := by
  have hc := flat_cells hB
  unfold flatB at hB
  split at hB
  · rename_i fs ht
    obtain ⟨xs, n, _, _, hl, hxl, hf⟩ := DataW.trod_struct ht h
    simp only [Bool.and_eq_true, beq_iff_eq] at hB
    obtain ⟨h1, _, h3⟩ := hB
    refine ⟨by rw [hl, hc], fun i s hs => ?_⟩
    have hi : i < sh.length := (List.getElem?_eq_some_iff.1 hs).1
    have := List.all_eq_true.1 h3 i (List.mem_range.2 hi)
    have hfi : fs[i]? = some fs[i] := Array.getElem?_eq_getElem (by omega)
    rw [hfi, hs] at this
    simp only [Bool.and_eq_true, beq_iff_eq] at this
    obtain ⟨ho, hc1, hk⟩ := this
    have hxi : xs[i]? = some xs[i] := List.getElem?_eq_getElem (by omega)
    have hd := hf i _ hfi
    rw [ho, hc1, hxi] at hd
    have hci : i < cs.length := by omega
    have e : (cs.drop i).take 1 = [cs[i]] := by rw [List.drop_eq_getElem_cons hci, List.take_succ_cons, List.take_zero]
    rw [e] at hd
    refine ⟨cs[i], List.getElem?_eq_getElem hci, ?_⟩
    split at hk
    · rename_i hu
      obtain ⟨n, hn, _, hwf⟩ := DataW.trod_int hu hd
      exact ⟨n, by simpa using hn, hwf⟩
    · rename_i hu
      obtain ⟨b, hb, _⟩ := DataW.trod_bool hu hd
      exact ⟨b, by simpa using hb⟩
    · cases hk
  · rename_i ht
    simp only [Bool.and_eq_true, beq_iff_eq] at hB
    obtain ⟨n, rfl, _, hwf⟩ := DataW.trod_int ht h
    rw [hB.2]
    refine ⟨rfl, fun i s hs => ?_⟩
    match i with
    | 0 => simp at hs; subst hs; exact ⟨_, rfl, n, rfl, hwf⟩
    | i + 1 => simp at hs
  · rename_i ht
    simp only [Bool.and_eq_true, beq_iff_eq] at hB
    obtain ⟨n, rfl, _⟩ := DataW.trod_bool ht h
    rw [hB.2]
    refine ⟨rfl, fun i s hs => ?_⟩
    match i with
    | 0 => simp at hs; subst hs; exact ⟨_, rfl, n, rfl⟩
    | i + 1 => simp at hs
  · cases hB
end
def FlatC : List Bool → List Cell → Prop
  | [], [] => True
  | true :: sh, .int .i64 n :: cs => (Lit.int .i64 n).wf = true ∧ FlatC sh cs
  | false :: sh, .bool _ :: cs => FlatC sh cs
  | _, _ => False
theorem flatC_of : ∀ (sh : List Bool) (vs : List Value), FlatV sh vs → FlatC sh (vs.map cellOf) ∧ ∀ E, lrel (crel E) (vs.map cellOf) vs
  | [], vs, h => by
    have : vs = [] := List.eq_nil_of_length_eq_zero h.1
    subst this
    exact ⟨trivial, fun E => lrel.nil⟩
  | s :: sh, [], h => by have := h.1; simp at this
  | s :: sh, v :: vs, h => by
    obtain ⟨v', hv', ho⟩ := h.2 0 s rfl
    simp only [List.getElem?_cons_zero, Option.some.injEq] at hv'
    subst hv'
    have ih := flatC_of sh vs ⟨by have := h.1; simpa using this, fun i s' hs => by simpa using h.2 (i + 1) s' (by simpa using hs)⟩
    cases s with
    | true =>
      obtain ⟨n, rfl, hwf⟩ := ho
      exact ⟨⟨hwf, ih.1⟩, fun E => lrel.cons rfl (ih.2 E)⟩
    | false =>
      obtain ⟨b, rfl⟩ := ho
      exact ⟨ih.1, fun E => lrel.cons rfl (ih.2 E)⟩
/-- Cells of a shape are what an encoding gives. -/
def Opens {α : Type} (sh : List Bool) (en : α → List Cell) : Prop := ∀ cs, FlatC sh cs → ∃ a, en a = cs
theorem opens_enI : Opens [true] enI := by
  intro cs h
  match cs, h with
  | [.int .i64 n], h => exact ⟨n, rfl⟩
theorem opens_enB : Opens [false] enB := by
  intro cs h
  match cs, h with
  | [.bool n], h => exact ⟨n, rfl⟩
section
variable {H : Type} {enc : TypeId × Value → H} {P : Program} {w : World} {α : Type} {en : α → List Cell}
theorem arg_struct {r : Reach} {base : Nat} {spare : Nat → Bool} {held : Bool} {b0 : Nat} {t : TypeId} {fs : Array Field} {sh : List Bool} {v : Value} {d : DataW H} {ps : List MemPlace} (hu : P.underlying t = some (.struct fs)) (hB : flatB P t sh = true) (hO : Opens sh en)
    (hval : Value.okWide P w r b0 t v) (h : DataW.Trod enc P w base spare held t v d ps) : ∃ a : α, ∀ E, trel E (.v (.agg (en a))) v := by
  obtain ⟨cs, rfl, _⟩ := okWide_struct hu hval
  obtain ⟨fuel, hf⟩ := h
  obtain ⟨h1, h2⟩ := flatC_of _ _ (trod_flat hB hf)
  obtain ⟨a, ha⟩ := hO _ h1
  exact ⟨a, fun E => ⟨cs, rfl, by rw [ha]; exact h2 E⟩⟩
def IsRows (en : α → List Cell) (w : World) (a : Option Addr) (len cap : Nat) (zs : List α) : Prop :=
  (a = none ∧ len = 0 ∧ cap = 0 ∧ zs = []) ∨
  ∃ x, a = some x ∧ len ≤ cap ∧ zs.length = cap ∧ ∀ (i : Nat) c, (zs.flatMap en)[i]? = some c → ∃ v, w.cell? (x.add i) = some v ∧ ∀ E, crel E c v
theorem list_of {P : Nat → α → Prop} : ∀ n : Nat, (∀ i, i < n → ∃ a, P i a) → ∃ l : List α, l.length = n ∧ ∀ (i : Nat) a, l[i]? = some a → P i a
  | 0, _ => ⟨[], rfl, fun i a h => by simp at h⟩
  | n + 1, h => by
    obtain ⟨l, hl, hp⟩ := list_of n fun i hi => h i (by omega)
    obtain ⟨a, ha⟩ := h n (by omega)
    refine ⟨l ++ [a], by simp [hl], fun i b hb => ?_⟩
    by_cases hi : i < l.length
    · rw [List.getElem?_append_left hi] at hb; exact hp i b hb
    · rw [List.getElem?_append_right (by omega)] at hb
      have : i = n := by
        have := (List.getElem?_eq_some_iff.1 hb).1
        simp at this; omega
      subst this
      simp [hl] at hb
      subst hb; exact ha
theorem rows_of {t e : TypeId} {sh : List Bool} {a : Option Addr} {len cap : Nat} {d : DataW H} {ps : List MemPlace} (hu : P.underlying t = some (.slice e)) (hB : flatB P e sh = true) (hO : Opens sh en) (hW : ∀ a, (en a).length = sh.length) (h0 : 0 < sh.length)
    (h : DataW.Trod enc P w 0 (fun _ => true) true t (.slice a len cap) d ps) : ∃ zs, IsRows en w a len cap zs := by
  obtain ⟨fuel, hf⟩ := h
  rcases DataW.trod_slice hu hf with ⟨hcs, _⟩ | ⟨x, l, c, elems, rest, n, _, hcs, _, _, hl, _, hel, he, hr, _⟩
  · simp [Value.cells] at hcs
    obtain ⟨rfl, rfl, rfl⟩ := hcs
    exact ⟨[], .inl ⟨rfl, rfl, rfl, rfl⟩⟩
  · simp [Value.cells] at hcs
    obtain ⟨rfl, rfl, rfl⟩ := hcs
    have hc := flat_cells hB
    obtain ⟨hrl, hr⟩ := hr rfl
    have one : ∀ i, i < cap → ∃ b : α, ∀ k c, (en b)[k]? = some c → ∃ v, w.cell? (x.add (i * sh.length + k)) = some v ∧ ∀ E, crel E c v := by
      intro i hi
      have : ∃ y, (w.cells? 0 (x.add (i * P.cellsOf e)) (P.cellsOf e)).bind (DataW.trod enc P w 0 (fun _ => true) true n e) = some y := by
        by_cases hlt : i < len
        · exact ⟨elems[i], by rw [he i hlt]; exact List.getElem?_eq_getElem (by omega)⟩
        · have := hr (i - len) (by omega)
          rw [show len + (i - len) = i by omega] at this
          exact ⟨rest[i - len], by rw [this]; exact List.getElem?_eq_getElem (by omega)⟩
      obtain ⟨y, hy⟩ := this
      obtain ⟨vs, hvs, htr⟩ := Option.bind_eq_some_iff.1 hy
      obtain ⟨_, hlen, hcell⟩ := World.cells?_some hvs
      obtain ⟨h1, h2⟩ := flatC_of _ _ (trod_flat hB htr)
      obtain ⟨b, hb⟩ := hO _ h1
      refine ⟨b, fun k c hk => ?_⟩
      rw [hb] at hk
      have hkl : k < vs.length := by
        have := (List.getElem?_eq_some_iff.1 hk).1
        simpa using this
      have := hcell k (by omega)
      rw [Addr.add_add, hc, List.getElem?_eq_getElem hkl] at this
      exact ⟨vs[k], this, fun E => (h2 E).2 k c _ hk (List.getElem?_eq_getElem hkl)⟩
    obtain ⟨zs, hz, hp⟩ := list_of cap one
    refine ⟨zs, .inr ⟨x, rfl, hl, hz, fun i c hi => ?_⟩⟩
    have hlt : i < zs.length * sh.length := by
      have := (List.getElem?_eq_some_iff.1 hi).1
      rwa [rows_len hW] at this
    have hq : i / sh.length < zs.length := Nat.div_lt_of_lt_mul (by rw [Nat.mul_comm]; exact hlt)
    have hk : i % sh.length < sh.length := Nat.mod_lt _ h0
    have hdm : i / sh.length * sh.length + i % sh.length = i := by rw [Nat.mul_comm]; exact Nat.div_add_mod _ _
    have g := rows_get1 hW zs hq hk
    rw [hdm, hi] at g
    have := hp _ _ (List.getElem?_eq_getElem hq) _ c g.symm
    rwa [hdm] at this
theorem sizedRows {base : Nat} {spare : Nat → Bool} {held : Bool} {t e : TypeId} {a : Option Addr} {len cap : Nat} {d : DataW H} {ps : List MemPlace} {ts : List TypeId} {ds : List (DataW H)} {j : Nat}
    (hsz : (DataW.weightsEach P ts ds).all (· ≤ reachBytes) = true) (ht : ts[j]? = some t) (hd : ds[j]? = some d) (hu : P.underlying t = some (.slice e)) {B : Nat} (hB : P.bytesOf e = B)
    (h : DataW.Trod enc P w base spare held t (.slice a len cap) d ps) : len * B ≤ 140737488351232 := by
  obtain ⟨fuel, hf⟩ := h
  rcases DataW.trod_slice hu hf with ⟨hcs, _⟩ | ⟨x, l, c, elems, rest, n, _, hcs, hx, _, hl, _, hel, he, hr, _⟩
  · simp [Value.cells] at hcs
    obtain ⟨rfl, rfl, rfl⟩ := hcs
    simp
  · simp [Value.cells] at hcs
    obtain ⟨rfl, rfl, rfl⟩ := hcs
    obtain ⟨hx, _⟩ := Prod.mk.inj hx
    subst hx
    have z := sized_slice hsz ht hd hu
    rw [hB] at z
    simp only [List.length_map] at z
    exact Nat.le_trans (Nat.mul_le_mul_right _ (by omega)) z
def argR (en : α → List Cell) (a : Option Addr) (zs : List α) : Option (List Cell) := a.map fun _ => zs.flatMap en
theorem argR_rel {a : Option Addr} {len cap : Nat} {zs : List α} (h : IsRows en w a len cap zs) {ads : List (Option Addr)} {j : Nat} (hj : ads[j]? = some a) : trel (roE ads) (.v (.one (argC a len j))) (.slice a len cap) := by
  rcases h with ⟨rfl, rfl, rfl, rfl⟩ | ⟨x, rfl, hl, _, _⟩
  · exact rfl
  · exact ⟨(x, none), x, cap, roE_at hj, rfl, hl, fun _ => ⟨rfl, fun c hc => by cases hc⟩, fun _ => by simp [Addr.add]⟩
theorem argR_view {a : Option Addr} {len cap : Nat} {zs : List α} (h : IsRows en w a len cap zs) {as : List (Option (List Cell))} {j : Nat} (hj : as[j]? = some (argR en a zs)) : View (roH as).o (roH as).nx (argC a len j) en (zs.take len) := by
  rcases h with ⟨rfl, rfl, rfl, rfl⟩ | ⟨x, rfl, hl, hz, _⟩
  · exact .inl ⟨rfl, rfl⟩
  · refine .inr ⟨j, j, true, 0, 0, zs.drop len, by rw [List.length_take, Nat.min_eq_left (by omega)]; rfl, ?_, by rw [List.take_append_drop]; exact roH_at hj⟩
    exact (List.getElem?_eq_some_iff.1 hj).1
theorem argR_len {a : Option Addr} {len cap : Nat} {zs : List α} (h : IsRows en w a len cap zs) : (zs.take len).length = len := by
  rcases h with ⟨rfl, rfl, rfl, rfl⟩ | ⟨x, rfl, hl, hz, _⟩
  · rfl
  · rw [List.length_take]; omega
theorem argR_cells {a : Option Addr} {len cap : Nat} {zs : List α} {cs : List Cell} (h : IsRows en w a len cap zs) (hcs : argR en a zs = some cs) : ∃ x, a = some x ∧ ∀ (E : Env) (i : Nat) c, cs[i]? = some c → ∃ v, w.cell? (x.add i) = some v ∧ crel E c v := by
  rcases h with ⟨rfl, rfl, rfl, rfl⟩ | ⟨x, rfl, hl, hz, hc⟩
  · cases hcs
  · refine ⟨x, rfl, fun E i c hi => ?_⟩
    simp only [argR, Option.map_some, Option.some.injEq] at hcs
    subst hcs
    obtain ⟨v, hv, hr⟩ := hc i c hi
    exact ⟨v, hv, hr E⟩
end

end Go.Am
