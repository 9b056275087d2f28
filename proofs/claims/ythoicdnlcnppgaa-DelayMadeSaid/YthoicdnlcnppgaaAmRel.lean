/- How the abstract machine's heap is told by the model's memory, and what keeps that. Conditions: as each theorem says. -/
import Derived.Test.YthoicdnlcnppgaaAmCore
set_option linter.unusedVariables false
set_option linter.unusedSimpArgs false
namespace Go.Am
open Go.RowKit
/-! ### What tells what -/
abbrev Env := Nat → Option (Addr × Option Nat)
def Env.le (E E' : Env) : Prop := ∀ j p, E j = some p → E' j = some p
theorem Env.le_refl (E : Env) : E.le E := fun _ _ h => h
theorem Env.le_trans {E E' E'' : Env} (h : E.le E') (k : E'.le E'') : E.le E'' := fun j p hj => k j p (h j p hj)
theorem Env.le_upd {E : Env} {j : Nat} (p : Addr × Option Nat) (h : E j = none) : E.le (upd E j (some p)) := by
  intro i q hi
  unfold upd
  by_cases e : i = j
  · subst e; rw [h] at hi; cases hi
  · rw [if_neg e]; exact hi
def crel (E : Env) : Cell → Value → Prop
  | .junk, _ => True
  | .int k n, v => v = .int k n
  | .bool b, v => v = .bool b
  | .ptr j off, v => ∃ p, E j = some p ∧ v = .pointer (some (p.1.add off))
  | .nilp, v => v = .pointer none
  | .slice j off n, v => ∃ p ad cap, E j = some p ∧ v = .slice (some ad) n cap ∧ n ≤ cap ∧ (off = 0 → ad = p.1 ∧ ∀ c, p.2 = some c → cap = c) ∧ (0 < cap → ad = p.1.add off)
  | .nils, v => v = .slice none 0 0
  | .map j, v => ∃ p, E j = some p ∧ v = .map (some p.1.block)
  | .nilm, v => v = .map none
/-- Two lists, place by place. -/
def lrel {α β : Type} (R : α → β → Prop) (xs : List α) (ys : List β) : Prop := xs.length = ys.length ∧ ∀ (i : Nat) x y, xs[i]? = some x → ys[i]? = some y → R x y
def avrel (E : Env) : AV → Value → Prop
  | .one c, v => crel E c v
  | .agg cs, v => ∃ vs : Array Value, v = .agg vs ∧ lrel (crel E) cs vs.toList
def trel (E : Env) : T → Value → Prop
  | .v x, v => avrel E x v
  | .tup xs, v => ∃ vs : Array Value, v = .tuple vs ∧ lrel (avrel E) xs vs.toList
theorem crel.mono {E E' : Env} (h : E.le E') {c : Cell} {v : Value} (hc : crel E c v) : crel E' c v := by
  cases c with
  | ptr j off => obtain ⟨p, hp, e⟩ := hc; exact ⟨p, h _ _ hp, e⟩
  | slice j off n => obtain ⟨p, ad, cap, hp, r⟩ := hc; exact ⟨p, ad, cap, h _ _ hp, r⟩
  | map j => obtain ⟨p, hp, e⟩ := hc; exact ⟨p, h _ _ hp, e⟩
  | _ => exact hc
theorem lrel.mono {α β : Type} {R R' : α → β → Prop} (hr : ∀ x y, R x y → R' x y) {xs : List α} {ys : List β} (h : lrel R xs ys) : lrel R' xs ys :=
  ⟨h.1, fun i x y hx hy => hr _ _ (h.2 i x y hx hy)⟩
theorem avrel.mono {E E' : Env} (h : E.le E') {c : AV} {v : Value} (hc : avrel E c v) : avrel E' c v := by
  cases c with
  | one c => exact crel.mono h hc
  | agg cs => obtain ⟨vs, e, hl⟩ := hc; exact ⟨vs, e, hl.mono fun _ _ => crel.mono h⟩
theorem trel.mono {E E' : Env} (h : E.le E') {c : T} {v : Value} (hc : trel E c v) : trel E' c v := by
  cases c with
  | v c => exact avrel.mono h hc
  | tup cs => obtain ⟨vs, e, hl⟩ := hc; exact ⟨vs, e, hl.mono fun _ _ => avrel.mono h⟩
theorem crel.one {E : Env} {c : Cell} {v : Value} (h : crel E c v) (hc : c ≠ .junk) : v.oneCell' = true := by
  cases c with
  | junk => exact absurd rfl hc
  | ptr j off => obtain ⟨p, _, rfl⟩ := h; rfl
  | slice j off n => obtain ⟨p, ad, cap, _, rfl, _⟩ := h; rfl
  | map j => obtain ⟨p, _, rfl⟩ := h; rfl
  | _ => cases h; rfl
/-- The cells of a value. -/
theorem avrel.cells {E : Env} {a : AV} {v : Value} (h : avrel E a v) (hs : solid a.cells = true) : lrel (crel E) a.cells v.cells.toList := by
  cases a with
  | one c =>
    have hc : c ≠ .junk := by simpa [AV.cells, solid] using hs
    have h1 := crel.one h hc
    have : v.cells = #[v] := by cases v <;> first | rfl | cases h1
    rw [this]
    refine ⟨rfl, fun i x y hx hy => ?_⟩
    match i with
    | 0 => simp [AV.cells] at hx hy; subst hx hy; exact h
    | i + 1 => simp [AV.cells] at hx
  | agg cs => obtain ⟨vs, rfl, hl⟩ := h; exact hl
theorem lrel.nil {α β : Type} {R : α → β → Prop} : lrel R [] [] := ⟨rfl, fun i x y hx => by simp at hx⟩
theorem lrel.cons {α β : Type} {R : α → β → Prop} {x : α} {y : β} {xs : List α} {ys : List β} (h : R x y) (hl : lrel R xs ys) : lrel R (x :: xs) (y :: ys) :=
  ⟨by simp [hl.1], fun i a b ha hb => by
    match i with
    | 0 => simp at ha hb; subst ha hb; exact h
    | i + 1 => simp at ha hb; exact hl.2 i a b ha hb⟩
theorem lrel.uncons {α β : Type} {R : α → β → Prop} {x : α} {xs : List α} {ys : List β} (h : lrel R (x :: xs) ys) : ∃ y ys', ys = y :: ys' ∧ R x y ∧ lrel R xs ys' := by
  cases ys with
  | nil => have := h.1; simp at this
  | cons y ys => exact ⟨y, ys, rfl, h.2 0 x y rfl rfl, by have := h.1; simpa using this, fun i a b ha hb => h.2 (i + 1) a b (by simpa using ha) (by simpa using hb)⟩
theorem lrel.append {α β : Type} {R : α → β → Prop} {xs xs' : List α} {ys ys' : List β} (h : lrel R xs ys) (k : lrel R xs' ys') : lrel R (xs ++ xs') (ys ++ ys') := by
  refine ⟨by simp [h.1, k.1], fun i x y hx hy => ?_⟩
  by_cases hi : i < xs.length
  · rw [List.getElem?_append_left hi] at hx
    rw [List.getElem?_append_left (by rw [← h.1]; exact hi)] at hy
    exact h.2 i x y hx hy
  · rw [List.getElem?_append_right (by omega)] at hx
    rw [List.getElem?_append_right (by rw [← h.1]; omega), ← h.1] at hy
    exact k.2 _ x y hx hy
theorem lrel.take {α β : Type} {R : α → β → Prop} {xs : List α} {ys : List β} (h : lrel R xs ys) (n : Nat) : lrel R (xs.take n) (ys.take n) := by
  refine ⟨by simp [h.1], fun i x y hx hy => ?_⟩
  rw [List.getElem?_take] at hx hy
  by_cases hi : i < n
  · rw [if_pos hi] at hx hy; exact h.2 i x y hx hy
  · rw [if_neg hi] at hx; cases hx
theorem lrel.drop {α β : Type} {R : α → β → Prop} {xs : List α} {ys : List β} (h : lrel R xs ys) (n : Nat) : lrel R (xs.drop n) (ys.drop n) := by
  refine ⟨by simp [h.1], fun i x y hx hy => ?_⟩
  rw [List.getElem?_drop] at hx hy
  exact h.2 _ x y hx hy
theorem lrel.get {α β : Type} {R : α → β → Prop} {xs : List α} {ys : List β} (h : lrel R xs ys) {i : Nat} {x : α} (hx : xs[i]? = some x) : ∃ y, ys[i]? = some y ∧ R x y := by
  have hi : i < xs.length := (List.getElem?_eq_some_iff.1 hx).1
  have : i < ys.length := by rw [← h.1]; exact hi
  exact ⟨ys[i], List.getElem?_eq_getElem this, h.2 i x _ hx (List.getElem?_eq_getElem this)⟩

/-! ### The heap -/
def orel (base : Nat) (w : World) (E : Env) (j : Nat) : AObj → Prop
  | .cells f true ety esz cs => ∃ p, E j = some p ∧ p.1.block < base ∧ ∀ (i : Nat) c, cs[i]? = some c → ∃ v, w.cell? (p.1.add i) = some v ∧ crel E c v
  | .cells f false ety esz cs => ∃ p b cur, E j = some p ∧ p.1 = ⟨b, 0, none⟩ ∧ base ≤ b ∧ w.heap[b]? = some (.cells cur ety (0, 0)) ∧
      (∀ (i : Nat) c, cs[i]? = some c → ∃ v, cur[i]? = some v ∧ crel E c v) ∧ (0 < esz → ∃ c, p.2 = some c ∧ c * esz = cur.size ∧ c ≤ maxLen)
  | .map key kvs => ∃ p b es clk, E j = some p ∧ p.1 = ⟨b, 0, none⟩ ∧ base ≤ b ∧ w.heap[b]? = some (.map es clk) ∧
      lrel (fun (q : AV × AV) (e : MapEntry) => key.fits q.1 = true ∧ avrel E q.1 e.key ∧ avrel E q.2 e.val) kvs es.toList
structure HRel (base : Nat) (w0 : World) (E : Env) (h : AH) (w : World) : Prop where
  below : Below base w0 w
  size : base ≤ w.heap.size
  obj : ∀ j o, h.o j = some o → orel base w E j o
  nx : ∀ j, h.nx ≤ j → E j = none
  fam : ∀ i j f e s cs f' e' s' cs' p q, h.o i = some (.cells f false e s cs) → h.o j = some (.cells f' false e' s' cs') → E i = some p → E j = some q → p.1.block = q.1.block → f = f'
  maps : ∀ i j k kvs k' kvs' p q, h.o i = some (.map k kvs) → h.o j = some (.map k' kvs') → E i = some p → E j = some q → p.1.block = q.1.block → i = j
  ord : ∀ j f e s cs, h.o j = some (.cells f false e s cs) → f ≤ j
  solo : ∀ i j f e cs f' e' s' cs' p q, h.o i = some (.cells f false e 0 cs) → h.o j = some (.cells f' false e' s' cs') → E i = some p → E j = some q → p.1.block = q.1.block → i = j
theorem orel.env {base : Nat} {w : World} {E : Env} {j : Nat} {o : AObj} (h : orel base w E j o) : ∃ p, E j = some p := by
  cases o with
  | cells f ro ety esz cs => cases ro <;> (obtain ⟨p, r⟩ := h; first | exact ⟨p, r.1⟩ | (obtain ⟨_, _, r⟩ := r; exact ⟨p, r.1⟩))
  | map k kvs => obtain ⟨p, _, _, _, r⟩ := h; exact ⟨p, r.1⟩
theorem orel.mono {base : Nat} {w w' : World} {E E' : Env} {j : Nat} {o : AObj} (hE : E.le E') (hw : ∀ p, E j = some p → p.1.block < base ∨ w'.heap[p.1.block]? = w.heap[p.1.block]?) (hb : Below base w w') (h : orel base w E j o) : orel base w' E' j o := by
  cases o with
  | cells f ro ety esz cs =>
    cases ro with
    | true =>
      obtain ⟨p, hp, hlt, hc⟩ := h
      refine ⟨p, hE _ _ hp, hlt, fun i c hi => ?_⟩
      obtain ⟨v, hv, hr⟩ := hc i c hi
      have e : (p.1.add i).block = p.1.block := by unfold Addr.add; split <;> rfl
      exact ⟨v, by rw [hb.cell (by rw [e]; exact hlt)]; exact hv, hr.mono hE⟩
    | false =>
      obtain ⟨p, b, cur, hp, e, hbb, hh, hc, hs⟩ := h
      refine ⟨p, b, cur, hE _ _ hp, e, hbb, ?_, fun i c hi => ?_, hs⟩
      · rcases hw p hp with h1 | h1
        · rw [e] at h1; simp at h1; omega
        · rw [e] at h1; simp at h1; rw [h1]; exact hh
      · obtain ⟨v, hv, hr⟩ := hc i c hi
        exact ⟨v, hv, hr.mono hE⟩
  | map k kvs =>
    obtain ⟨p, b, es, clk, hp, e, hbb, hh, hl⟩ := h
    refine ⟨p, b, es, clk, hE _ _ hp, e, hbb, ?_, hl.mono fun q m hq => ⟨hq.1, hq.2.1.mono hE, hq.2.2.mono hE⟩⟩
    rcases hw p hp with h1 | h1
    · rw [e] at h1; simp at h1; omega
    · rw [e] at h1; simp at h1; rw [h1]; exact hh
theorem below_of_eq {B : Nat} {w w' : World} (h1 : w'.os = w.os) (h2 : w'.tape = w.tape) (h3 : w'.output = w.output) (h4 : w'.heap = w.heap) : Below B w w' :=
  ⟨h1, h2, h3, by rw [h4]; exact Nat.le_refl _, fun k _ => by rw [h4]⟩
/-- A draw. -/
theorem HRel.drawn {base : Nat} {w0 w : World} {E : Env} {h : AH} (H : HRel base w0 E h w) (n : Nat) : HRel base w0 E h { w with drawn := n } := by
  refine ⟨H.below.trans ⟨rfl, rfl, rfl, Nat.le_refl _, fun _ _ => rfl⟩, H.size, fun j o hj => (H.obj j o hj).mono (Env.le_refl E) (fun p _ => .inr rfl) ⟨rfl, rfl, rfl, Nat.le_refl _, fun _ _ => rfl⟩, H.nx, H.fam, H.maps, H.ord, H.solo⟩
theorem heap_old (w : World) (o : Obj) (k : Nat) (hk : k < w.heap.size) : (w.alloc o).heap[k]? = w.heap[k]? := by
  show (w.heap.push o)[k]? = _
  rw [Array.getElem?_push]
  rw [if_neg (by omega)]
theorem alloc_size (w : World) (o : Obj) : (w.alloc o).heap.size = w.heap.size + 1 := Array.size_push ..
theorem alloc_le (w : World) (o : Obj) : w.heap.size ≤ (w.alloc o).heap.size := by rw [alloc_size]; omega
theorem heap_new (w : World) (o : Obj) : (w.alloc o).heap[w.heap.size]? = some o := by
  show (w.heap.push o)[w.heap.size]? = _
  simp
theorem orel.lt {base : Nat} {w : World} {E : Env} {j : Nat} {o : AObj} (h : orel base w E j o) {p : Addr × Option Nat} (hp : E j = some p) (hb : base ≤ w.heap.size) : p.1.block < w.heap.size := by
  have key : ∀ {b : Nat} {x : Obj}, w.heap[b]? = some x → b < w.heap.size := fun h => (Array.getElem?_eq_some_iff.1 h).1
  cases o with
  | cells f ro ety esz cs =>
    cases ro with
    | true => obtain ⟨q, hq, hlt, _⟩ := h; rw [hp] at hq; cases hq; omega
    | false => obtain ⟨q, b, cur, hq, e, _, hh, _⟩ := h; rw [hp] at hq; cases hq; rw [e]; exact key hh
  | map k kvs => obtain ⟨q, b, es, clk, hq, e, _, hh, _⟩ := h; rw [hp] at hq; cases hq; rw [e]; exact key hh
theorem upd_same {α : Type} (f : Nat → α) (i : Nat) (x : α) : upd f i x i = x := by simp [upd]
theorem upd_ne {α : Type} (f : Nat → α) {i j : Nat} (x : α) (h : j ≠ i) : upd f i x j = f j := by simp [upd, h]
/-- A new block told by a new number. -/
theorem HRel.alloc {base : Nat} {w0 w : World} {E : Env} {h : AH} (H : HRel base w0 E h w) {j : Nat} (hj : E j = none) (hlt : j < h.nx) (cap : Option Nat) (ob : Obj) (ao : AObj)
    (hro : ∀ f e s cs, ao ≠ .cells f true e s cs) (hord : ∀ f e s cs, ao = .cells f false e s cs → f ≤ j)
    (ho : orel base (w.alloc ob) (upd E j (some (⟨w.heap.size, 0, none⟩, cap))) j ao) :
    HRel base w0 (upd E j (some (⟨w.heap.size, 0, none⟩, cap))) (h.set j ao) (w.alloc ob) := by
  have hle : E.le (upd E j (some (⟨w.heap.size, 0, none⟩, cap))) := Env.le_upd _ hj
  have hold : ∀ i o, i ≠ j → h.o i = some o → ∃ p, E i = some p ∧ p.1.block < w.heap.size := fun i o _ hi => by
    obtain ⟨p, hp⟩ := (H.obj i o hi).env
    exact ⟨p, hp, (H.obj i o hi).lt hp H.size⟩
  have hget : ∀ i, i ≠ j → (h.set j ao).o i = h.o i := fun i hi => upd_ne _ _ hi
  have hsame : (h.set j ao).o j = some ao := upd_same _ _ _
  have hE : ∀ i p, i ≠ j → upd E j (some (⟨w.heap.size, 0, none⟩, cap)) i = some p → E i = some p := fun i p hi hp => by rwa [upd_ne _ _ hi] at hp
  refine ⟨H.below.trans ⟨rfl, rfl, rfl, alloc_le w ob, fun k hk => heap_old w ob k (by have := H.size; omega)⟩, by have := H.size; rw [alloc_size]; omega, ?_, ?_, ?_, ?_, fun i f e s cs hi => ?_, ?_⟩
  · intro i o hi
    by_cases e : i = j
    · subst e; rw [hsame] at hi; cases hi; exact ho
    · rw [hget i e] at hi
      refine (H.obj i o hi).mono hle (fun p hp => .inr (heap_old w ob _ ((H.obj i o hi).lt hp H.size))) ⟨rfl, rfl, rfl, alloc_le w ob, fun k hk => heap_old w ob k (by have := H.size; omega)⟩
  · intro i hi
    have : i ≠ j := by intro e; subst e; have : h.nx ≤ i := hi; omega
    rw [upd_ne _ _ this]
    exact H.nx i hi
  · intro i k f e s cs f' e' s' cs' p q hi hk hp hq hb
    by_cases ei : i = j
    · by_cases ek : k = j
      · subst ei ek; rw [hsame] at hi hk; rw [hi] at hk; cases hk; rfl
      · exfalso
        subst ei
        rw [hget k ek] at hk
        obtain ⟨q', hq', hlt'⟩ := hold k _ ek hk
        have := hE k q ek hq
        rw [hq'] at this; cases this
        rw [upd_same] at hp; cases hp
        simp at hb; omega
    · by_cases ek : k = j
      · exfalso
        subst ek
        rw [hget i ei] at hi
        obtain ⟨q', hq', hlt'⟩ := hold i _ ei hi
        have := hE i p ei hp
        rw [hq'] at this; cases this
        rw [upd_same] at hq; cases hq
        simp at hb; omega
      · rw [hget i ei] at hi
        rw [hget k ek] at hk
        exact H.fam i k f e s cs f' e' s' cs' p q hi hk (hE i p ei hp) (hE k q ek hq) hb
  · intro i k a b c d p q hi hk hp hq hb
    by_cases ei : i = j
    · by_cases ek : k = j
      · rw [ei, ek]
      · exfalso
        subst ei
        rw [hget k ek] at hk
        obtain ⟨q', hq', hlt'⟩ := hold k _ ek hk
        have := hE k q ek hq
        rw [hq'] at this; cases this
        rw [upd_same] at hp; cases hp
        simp at hb; omega
    · by_cases ek : k = j
      · exfalso
        subst ek
        rw [hget i ei] at hi
        obtain ⟨q', hq', hlt'⟩ := hold i _ ei hi
        have := hE i p ei hp
        rw [hq'] at this; cases this
        rw [upd_same] at hq; cases hq
        simp at hb; omega
      · rw [hget i ei] at hi
        rw [hget k ek] at hk
        exact H.maps i k a b c d p q hi hk (hE i p ei hp) (hE k q ek hq) hb
  · by_cases ei : i = j
    · subst ei; rw [hsame] at hi; cases hi; exact hord _ _ _ _ rfl
    · rw [hget i ei] at hi; exact H.ord i f e s cs hi
  · intro i k f e cs f' e' s' cs' p q hi hk hp hq hb
    by_cases ei : i = j
    · by_cases ek : k = j
      · rw [ei, ek]
      · exfalso
        subst ei
        rw [hget k ek] at hk
        obtain ⟨q', hq', hlt'⟩ := hold k _ ek hk
        have := hE k q ek hq
        rw [hq'] at this; cases this
        rw [upd_same] at hp; cases hp
        simp at hb; omega
    · by_cases ek : k = j
      · exfalso
        subst ek
        rw [hget i ei] at hi
        obtain ⟨q', hq', hlt'⟩ := hold i _ ei hi
        have := hE i p ei hp
        rw [hq'] at this; cases this
        rw [upd_same] at hq; cases hq
        simp at hb; omega
      · rw [hget i ei] at hi
        rw [hget k ek] at hk
        exact H.solo i k f e cs f' e' s' cs' p q hi hk (hE i p ei hp) (hE k q ek hq) hb
/-- A block of the call's own is written, and told anew by object j; what else lay in it is given up or reads as it did. -/
theorem HRel.write {base : Nat} {w0 w w' : World} {E : Env} {h h' : AH} (H : HRel base w0 E h w) {b : Nat} (hbase : base ≤ b)
    (hos : w'.os = w.os) (htape : w'.tape = w.tape) (hout : w'.output = w.output) (hsz : w'.heap.size = w.heap.size) (hblk : ∀ k, k ≠ b → w'.heap[k]? = w.heap[k]?)
    (hnx : h'.nx = h.nx) (hobj : ∀ j o, h'.o j = some o → orel base w' E j o ∨ (h.o j = some o ∧ ∀ p, E j = some p → p.1.block ≠ b))
    (hfam : ∀ j f e s cs, h'.o j = some (.cells f false e s cs) → ∃ e' cs', h.o j = some (.cells f false e' s cs'))
    (hmap : ∀ j k kvs, h'.o j = some (.map k kvs) → ∃ k' kvs', h.o j = some (.map k' kvs')) : HRel base w0 E h' w' := by
  have hB : Below base w w' := ⟨hos, htape, hout, by omega, fun k hk => hblk k (by omega)⟩
  refine ⟨H.below.trans hB, by rw [hsz]; exact H.size, ?_, by rw [hnx]; exact H.nx, ?_, ?_, fun j f e s cs hj => ?_, ?_⟩
  · intro j o hj
    rcases hobj j o hj with h1 | ⟨h1, h2⟩
    · exact h1
    · exact (H.obj j o h1).mono (Env.le_refl E) (fun p hp => .inr (hblk _ (h2 p hp))) hB
  · intro i j f e s cs f' e' s' cs' p q hi hj hp hq hb
    obtain ⟨_, _, hi'⟩ := hfam i _ _ _ _ hi
    obtain ⟨_, _, hj'⟩ := hfam j _ _ _ _ hj
    exact H.fam _ _ _ _ _ _ _ _ _ _ p q hi' hj' hp hq hb
  · intro i j a b' c d p q hi hj hp hq hb
    obtain ⟨_, _, hi'⟩ := hmap i _ _ hi
    obtain ⟨_, _, hj'⟩ := hmap j _ _ hj
    exact H.maps _ _ _ _ _ _ p q hi' hj' hp hq hb
  · obtain ⟨_, _, hj'⟩ := hfam j _ _ _ _ hj
    exact H.ord _ _ _ _ _ hj'
  · intro i j f e cs f' e' s' cs' p q hi hj hp hq hb
    obtain ⟨_, _, hi'⟩ := hfam i _ _ _ _ hi
    obtain ⟨_, _, hj'⟩ := hfam j _ _ _ _ hj
    exact H.solo _ _ _ _ _ _ _ _ _ p q hi' hj' hp hq hb

end Go.Am
