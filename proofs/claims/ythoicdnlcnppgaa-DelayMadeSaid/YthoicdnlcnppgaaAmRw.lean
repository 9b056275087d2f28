/- Arguments that are slices. Conditions: as each theorem says. -/
import Derived.Test.YthoicdnlcnppgaaAmCo
import Derived.Test.YthoicdnlcnppgaaAmLs
import Derived.ChangeSlices
import Derived.SizedLaws
import Derived.OpenShut
import Derived.ChangeOld
import Derived.Below
set_option linter.unusedVariables false
set_option linter.unusedSimpArgs false
namespace Go.Am
open Go.RowKit
open Go.ChangeShapes Go.WideShapes
/-! ### Arguments that are slices -/
/-- A heap of arrays that are only read; some places may be empty. -/
def roH (as : List (Option (List Cell))) : AH := ⟨fun j => match as[j]? with | some (some cs) => some (.cells j true 0 0 cs) | _ => none, as.length⟩
def roE (ads : List (Option Addr)) : Env := fun j => match ads[j]? with | some (some a) => some (a, none) | _ => none
theorem roH_at {as : List (Option (List Cell))} {j : Nat} {cs : List Cell} (h : as[j]? = some (some cs)) : (roH as).o j = some (.cells j true 0 0 cs) := by simp [roH, h]
theorem roE_at {ads : List (Option Addr)} {j : Nat} {a : Addr} (h : ads[j]? = some (some a)) : roE ads j = some (a, none) := by simp [roE, h]
theorem ro_rel {w : World} {as : List (Option (List Cell))} {ads : List (Option Addr)} (hlen : ads.length ≤ as.length)
    (hc : ∀ (j : Nat) (cs : List Cell), as[j]? = some (some cs) → ∃ a : Addr, ads[j]? = some (some a) ∧ a.block < w.heap.size ∧ ∀ (i : Nat) c, cs[i]? = some c → ∃ v, w.cell? (a.add i) = some v ∧ crel (roE ads) c v) :
    HRel w.heap.size w (roE ads) (roH as) w := by
  have no : ∀ j f e s cs, (roH as).o j = some (.cells f false e s cs) → False := by
    intro j f e s cs h
    simp only [roH] at h
    split at h <;> simp at h
  have nm : ∀ j k kvs, (roH as).o j = some (.map k kvs) → False := by
    intro j k kvs h
    simp only [roH] at h
    split at h <;> simp at h
  refine ⟨Below.refl _ _, Nat.le_refl _, fun j o h => ?_, fun j hj => ?_, fun i j f e s cs f' e' s' cs' p q h => (no _ _ _ _ _ h).elim, fun i j k kvs k' kvs' p q h => (nm _ _ _ h).elim, fun j f e s cs h => (no _ _ _ _ _ h).elim, fun i j f e cs f' e' s' cs' p q h => (no _ _ _ _ _ h).elim⟩
  · simp only [roH] at h
    split at h
    · rename_i cs hcs
      cases h
      obtain ⟨a, ha, hb, hv⟩ := hc j cs hcs
      exact ⟨(a, none), roE_at ha, hb, hv⟩
    · cases h
  · have hj' : as.length ≤ j := hj
    simp only [roE]
    rw [List.getElem?_eq_none (by omega)]
theorem okWide_block {P : Program} {w : World} {r : Reach} {base : Nat} {t e : TypeId} {a : Addr} {len cap : Nat} (ht : P.underlying t = some (.slice e)) (h : Value.okWide P w r base t (.slice (some a) len cap)) : a.block < w.heap.size := by
  unfold Value.okWide at h
  simp only [ht] at h
  unfold Cell.okWide at h
  simp only [ht] at h
  unfold Cell.ok at h
  simp only [ht] at h
  obtain ⟨_, _, _, _, row, cells, hs, _⟩ := h
  unfold World.shape? at hs
  cases hb : w.heap[a.block]? with
  | none => rw [hb] at hs; cases hs
  | some x => exact (Array.getElem?_eq_some_iff.1 hb).1
def IsRow (k : IntKind) (w : World) (a : Option Addr) (len cap : Nat) (zs : List Int) : Prop :=
  (a = none ∧ len = 0 ∧ cap = 0 ∧ zs = []) ∨
  ∃ x, a = some x ∧ len ≤ cap ∧ cap ≤ maxLen ∧ zs.length = cap ∧ (∀ i, i < zs.length → w.cell? (x.add i) = some (.int k (zs.getD i 0))) ∧ ∀ n ∈ zs, (Lit.int k n).wf = true
theorem isRow_of {H : Type} {enc : TypeId × Value → H} {P : Program} {W : World} {t e : TypeId} {k : IntKind} {a : Option Addr} {len cap : Nat} {d : DataW H} {ps : List MemPlace}
    (hu : P.underlying t = some (.slice e)) (he : P.underlying e = some (.int k)) (hc : P.cellsOf e = 1)
    (h : DataW.Trod enc P W 0 (fun _ => true) true t (.slice a len cap) d ps) : ∃ zs, IsRow k W a len cap zs := by
  obtain ⟨fuel, hf⟩ := h
  rcases open_ints hu he hc hf with ⟨hcs, _⟩ | ⟨x, l, c, zs, hcs, _, hl, hm, hz, _, hcell, hwz⟩
  · simp [Value.cells] at hcs
    obtain ⟨rfl, rfl, rfl⟩ := hcs
    exact ⟨[], .inl ⟨rfl, rfl, rfl, rfl⟩⟩
  · simp [Value.cells] at hcs
    obtain ⟨rfl, rfl, rfl⟩ := hcs
    exact ⟨zs, .inr ⟨_, rfl, hl, hm, by simpa using hz, hcell, hwz⟩⟩
theorem sizedInts {H : Type} {enc : TypeId × Value → H} {P : Program} {W : World} {base : Nat} {spare : Nat → Bool} {held : Bool} {t e : TypeId} {k : IntKind} {a : Option Addr} {len cap : Nat} {d : DataW H} {ps : List MemPlace} {ts : List TypeId} {ds : List (DataW H)} {j : Nat}
    (hsz : (DataW.weightsEach P ts ds).all (· ≤ reachBytes) = true) (ht : ts[j]? = some t) (hd : ds[j]? = some d) (hu : P.underlying t = some (.slice e)) (he : P.underlying e = some (.int k)) (hc : P.cellsOf e = 1) {B : Nat} (hB : P.bytesOf e = B)
    (h : DataW.Trod enc P W base spare held t (.slice a len cap) d ps) : len * B ≤ 140737488351232 := by
  obtain ⟨fuel, hf⟩ := h
  rcases open_ints hu he hc hf with ⟨hcs, _⟩ | ⟨x, l, c, zs, hcs, _, hl, _, hz, hx, _, _⟩
  · simp [Value.cells] at hcs
    obtain ⟨rfl, rfl, rfl⟩ := hcs
    simp
  · simp [Value.cells] at hcs
    obtain ⟨rfl, rfl, rfl⟩ := hcs
    obtain ⟨hx, _⟩ := Prod.mk.inj hx
    subst hx
    have z := sized_slice hsz ht hd hu
    rw [hB] at z
    have hl2 : len ≤ zs.length := by
      rw [hz]
      split
      · exact hl
      · exact Nat.le_refl _
    have h1 : (lits (H := H) k (zs.take len)).length + (lits (H := H) k (zs.drop len)).length = zs.length := by
      simp [lits]
      omega
    rw [h1] at z
    exact Nat.le_trans (Nat.mul_le_mul_right _ hl2) z
/-- The cell that tells a slice argument, its array's number being j. -/
def argC (a : Option Addr) (len j : Nat) : Cell := match a with
  | none => .nils
  | some _ => .slice j 0 len
def argO (a : Option Addr) (zs : List Int) : Option (List Cell) := a.map fun _ => zs.flatMap enI
theorem flatI (zs : List Int) : zs.flatMap enI = zs.map (Cell.int .i64) := by
  induction zs with
  | nil => rfl
  | cons z zs ih => rw [List.flatMap_cons, ih]; rfl
theorem arg_rel {w : World} {a : Option Addr} {len cap : Nat} {zs : List Int} (h : IsRow .i64 w a len cap zs) {ads : List (Option Addr)} {j : Nat} (hj : ads[j]? = some a) : trel (roE ads) (.v (.one (argC a len j))) (.slice a len cap) := by
  rcases h with ⟨rfl, rfl, rfl, rfl⟩ | ⟨x, rfl, hl, _, _, _, _⟩
  · exact rfl
  · exact ⟨(x, none), x, cap, roE_at hj, rfl, hl, fun _ => ⟨rfl, fun c hc => by cases hc⟩, fun _ => by simp [Addr.add]⟩
theorem arg_view {w : World} {a : Option Addr} {len cap : Nat} {zs : List Int} (h : IsRow .i64 w a len cap zs) {as : List (Option (List Cell))} {j : Nat} (hj : as[j]? = some (argO a zs)) : View (roH as).o (roH as).nx (argC a len j) enI (zs.take len) := by
  rcases h with ⟨rfl, rfl, rfl, rfl⟩ | ⟨x, rfl, hl, _, hz, _, _⟩
  · exact .inl ⟨rfl, rfl⟩
  · refine .inr ⟨j, j, true, 0, 0, zs.drop len, by rw [List.length_take, Nat.min_eq_left (by omega)]; rfl, ?_, by rw [List.take_append_drop]; exact roH_at hj⟩
    have := (List.getElem?_eq_some_iff.1 hj).1
    exact this
theorem arg_len {w : World} {a : Option Addr} {len cap : Nat} {zs : List Int} (h : IsRow .i64 w a len cap zs) : (zs.take len).length = len := by
  rcases h with ⟨rfl, rfl, rfl, rfl⟩ | ⟨x, rfl, hl, _, hz, _, _⟩
  · rfl
  · rw [List.length_take]; omega
theorem arg_cells {w : World} {a : Option Addr} {len cap : Nat} {zs : List Int} {cs : List Cell} (h : IsRow .i64 w a len cap zs) (hcs : argO a zs = some cs) : ∃ x, a = some x ∧ ∀ (E : Env) (i : Nat) c, cs[i]? = some c → ∃ v, w.cell? (x.add i) = some v ∧ crel E c v := by
  rcases h with ⟨rfl, rfl, rfl, rfl⟩ | ⟨x, rfl, hl, _, hz, hc, _⟩
  · cases hcs
  · refine ⟨x, rfl, fun E i c hi => ?_⟩
    simp only [argO, Option.map_some, Option.some.injEq] at hcs
    subst hcs
    rw [flatI, List.getElem?_map] at hi
    obtain ⟨n, hn, rfl⟩ := Option.map_eq_some_iff.1 hi
    have hlt := (List.getElem?_eq_some_iff.1 hn).1
    refine ⟨_, hc i hlt, ?_⟩
    rw [List.getD, hn]
    exact rfl

end Go.Am
