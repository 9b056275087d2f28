/- Operations change places. Conditions: as each theorem says. -/
import Derived.Test.YthoicdnlcnppgaaAmMu
set_option linter.unusedVariables false
set_option linter.unusedSimpArgs false
namespace Go.Am
open Go.RowKit
/-! ### Operations change places -/
def optOpd : Option Opd → List Opd
  | none => []
  | some x => [x]
def AOp.opds : AOp → List Opd
  | .mov x | .not x | .conv _ x | .nilchk x | .fadr _ x | .ext _ x | .len x | .load _ x | .lenm x | .box _ _ x | .eqp _ x => [x]
  | .pick a b c => [a, b, c]
  | .bin _ x y | .eqb _ x y | .eqs _ _ x y | .iadr _ x y | .iadrA _ _ x y | .max2 x y | .look _ _ _ x y | .mks _ _ _ _ x y | .app _ _ _ x y | .store _ x y | .cpy _ x y => [x, y]
  | .slc _ x lo hi | .slcA _ _ x lo hi => x :: (optOpd lo ++ optOpd hi)
  | .build _ ps | .bsl _ _ _ _ ps => ps.map fun p => p.2.2
  | .new _ _ | .mkm _ => []
  | .mupd _ m k v => [m, k, v]
  | .call _ args => args
def tmpOf : Opd → List Nat
  | .t n => [n]
  | .k _ => []
def AOper.looks (o : AOper) : List Nat := o.op.opds.flatMap tmpOf ++ (match o.guard with | some (d, _) => [d] | none => [])
theorem ev_agree {ρ ρ' : Nat → T} {x : Opd} (h : ∀ n ∈ tmpOf x, ρ n = ρ' n) : x.ev ρ = x.ev ρ' := by
  cases x with
  | t n => exact h n (by simp [tmpOf])
  | k c => rfl
theorem fillA_congr {ρ ρ' : Nat → T} : ∀ (ps : List (Nat × Nat × Opd)) (cs : List Cell), (∀ x ∈ ps.map (fun p => p.2.2), x.ev ρ = x.ev ρ') → fillA ρ cs ps = fillA ρ' cs ps
  | [], cs, _ => rfl
  | (off, n, x) :: ps, cs, h => by
    have hx : x.ev ρ = x.ev ρ' := h x (by simp)
    simp only [fillA, hx]
    split
    · split
      · exact fillA_congr ps _ fun y hy => h y (by simp at hy ⊢; exact .inr hy)
      · rfl
    · rfl
theorem bnd_congr {ρ ρ' : Nat → T} {d : Nat} {x : Option Opd} (h : ∀ y ∈ optOpd x, y.ev ρ = y.ev ρ') : bnd ρ d x = bnd ρ' d x := by
  cases x with
  | none => rfl
  | some y => simp only [bnd, h y (by simp [optOpd])]
section
variable {ρ ρ' : Nat → T} {op : AOp} (h : ∀ x ∈ op.opds, x.ev ρ = x.ev ρ')
include h
theorem pv_congr : pv ρ op = pv ρ' op := by
  cases op <;> simp only [AOp.opds, List.mem_cons, List.mem_nil_iff, or_false, forall_eq_or_imp, forall_eq, List.not_mem_nil] at h <;> simp only [pv, h]
  case slc e x lo hi =>
    have h2 : ∀ d, bnd ρ d lo = bnd ρ' d lo := fun d => bnd_congr fun y hy => h.2 y (by simp [hy])
    have h3 : ∀ d, bnd ρ d hi = bnd ρ' d hi := fun d => bnd_congr fun y hy => h.2 y (by simp [hy])
    simp only [h2, h3]
  case slcA n e x lo hi =>
    have h2 : ∀ d, bnd ρ d lo = bnd ρ' d lo := fun d => bnd_congr fun y hy => h.2 y (by simp [hy])
    have h3 : ∀ d, bnd ρ d hi = bnd ρ' d hi := fun d => bnd_congr fun y hy => h.2 y (by simp [hy])
    simp only [h2, h3]
  case build z ps => rw [fillA_congr ps z h]
theorem lv_congr (hp : AH) : lv ρ hp op = lv ρ' hp op := by
  cases op <;> simp only [AOp.opds, List.mem_cons, List.mem_nil_iff, or_false, forall_eq_or_imp, forall_eq, List.not_mem_nil] at h <;> simp only [lv, h]
theorem nv_congr (j : Nat) : nv ρ j op = nv ρ' j op := by
  cases op <;> simp only [AOp.opds, List.mem_cons, List.mem_nil_iff, or_false, forall_eq_or_imp, forall_eq, List.not_mem_nil] at h <;> simp only [nv, h]
  case bsl e n len z ps => rw [fillA_congr ps _ h]
theorem apv_congr (hp : AH) (j : Nat) : apv ρ hp j op = apv ρ' hp j op := by
  cases op <;> simp only [AOp.opds, List.mem_cons, List.mem_nil_iff, or_false, forall_eq_or_imp, forall_eq, List.not_mem_nil] at h <;> simp only [apv, h]
theorem sv_congr (hp : AH) : sv ρ hp op = sv ρ' hp op := by
  cases op <;> simp only [AOp.opds, List.mem_cons, List.mem_nil_iff, or_false, forall_eq_or_imp, forall_eq, List.not_mem_nil] at h <;> simp only [sv, h]
end
theorem opv_congr {rec : Rec} {j : Nat} {s s' : St} {op : AOp} (h : ∀ x ∈ op.opds, x.ev s.t = x.ev s'.t) (hh : s.h = s'.h) : opv rec j s op = opv rec j s' op := by
  unfold opv
  rw [pv_congr h, lv_congr h, nv_congr h, apv_congr h, sv_congr h, hh]
  cases op <;> try rfl
  rename_i f args
  simp only [AOp.cls]
  have : args.map (fun x => x.ev s.t) = args.map (fun x => x.ev s'.t) := List.map_congr_left h
  rw [this]
theorem looks_opds {o : AOper} {ρ ρ' : Nat → T} (h : ∀ n ∈ o.looks, ρ n = ρ' n) : ∀ x ∈ o.op.opds, x.ev ρ = x.ev ρ' := fun x hx =>
  ev_agree fun n hn => h n (by unfold AOper.looks; exact List.mem_append_left _ (List.mem_flatMap.2 ⟨x, hx, hn⟩))
theorem looks_guard {o : AOper} {ρ ρ' : Nat → T} (h : ∀ n ∈ o.looks, ρ n = ρ' n) : wants ρ o.guard = wants ρ' o.guard := by
  cases hg : o.guard with
  | none => rfl
  | some g =>
    have : ρ g.1 = ρ' g.1 := h g.1 (by unfold AOper.looks; rw [hg]; exact List.mem_append_right _ (by simp))
    simp only [wants, this]
/-- What a step does, its temporary aside. -/
def oval (rec : Rec) (j : Nat) (o : AOper) (s : St) : Option (T × AH) :=
  match wants s.t o.guard with
  | some true => opv rec j s o.op
  | some false => some (.tup [], s.h)
  | none => none
theorem ostep_eq (rec : Rec) (j : Nat) (o : AOper) (s : St) : ostep rec j o s = (oval rec j o s).map fun p => ({ s with h := p.2 } : St).put o.dst p.1 := by
  unfold ostep oval
  cases hg : wants s.t o.guard with
  | none => rfl
  | some b => cases b <;> rfl
theorem oval_congr {rec : Rec} {j : Nat} {o : AOper} {s s' : St} (h : ∀ n ∈ o.looks, s.t n = s'.t n) (hh : s.h = s'.h) : oval rec j o s = oval rec j o s' := by
  unfold oval
  rw [looks_guard h, opv_congr (looks_opds h) hh, hh]
theorem put_t (s : St) (d : Option Nat) (x : T) (n : Nat) (h : d ≠ some n) : (s.put d x).t n = s.t n := by
  cases d with
  | none => rfl
  | some d => exact upd_ne _ _ (fun e => h (by rw [e]))
theorem put_h (s : St) (d : Option Nat) (x : T) : (s.put d x).h = s.h := by cases d <;> rfl
theorem put_put (s : St) (d d' : Option Nat) (x y : T) (h : ∀ n, d = some n → d' ≠ some n) : (s.put d x).put d' y = (s.put d' y).put d x := by
  cases d with
  | none => cases d' <;> rfl
  | some a =>
    cases d' with
    | none => rfl
    | some b =>
      have hne : a ≠ b := fun e => h a rfl (by rw [e])
      simp only [St.put]
      congr 1
      funext n
      unfold upd
      by_cases h1 : n = a
      · by_cases h2 : n = b
        · exact absurd (h1.symm.trans h2) hne
        · rw [if_neg h2, if_pos h1, if_pos h1]
      · by_cases h2 : n = b
        · rw [if_pos h2, if_neg h1, if_pos h2]
        · rw [if_neg h2, if_neg h1, if_neg h1, if_neg h2]
theorem put_heap (s : St) (d : Option Nat) (x : T) (h : AH) : ({ s.put d x with h := h } : St) = ({ s with h := h } : St).put d x := by cases d <;> rfl
/-- The temporaries of two operations are apart. -/
def apartB (x y : AOper) : Bool :=
  (match x.dst with | some d => !(y.looks.contains d) && y.dst != some d | none => true) && (match y.dst with | some d => !(x.looks.contains d) | none => true)
theorem apartB_spec {x y : AOper} (h : apartB x y = true) : (∀ n ∈ y.looks, x.dst ≠ some n) ∧ (∀ n ∈ x.looks, y.dst ≠ some n) ∧ (∀ n, x.dst = some n → y.dst ≠ some n) := by
  unfold apartB at h
  simp only [Bool.and_eq_true] at h
  obtain ⟨h1, h2⟩ := h
  refine ⟨fun n hn hx => ?_, fun n hn hy => ?_, fun n hx hy => ?_⟩
  · rw [hx] at h1
    simp [hn] at h1
  · rw [hy] at h2
    simp [hn] at h2
  · rw [hx, hy] at h1
    simp at h1
/-- Two steps change places: what the first does to the heap is the same behind the second, and the other way round. -/
theorem swap {rec : Rec} {jx ji : Nat} {x i : AOper} (hap : apartB x i = true) {s s1 s2 : St} (h1 : ostep rec jx x s = some s1) (h2 : ostep rec ji i s1 = some s2)
    (hc : ∀ vx hx vi hi, oval rec jx x s = some (vx, hx) → oval rec ji i ({ s with h := hx } : St) = some (vi, hi) → ∃ h', oval rec ji i s = some (vi, h') ∧ oval rec jx x ({ s with h := h' } : St) = some (vx, hi)) :
    ∃ s1', ostep rec ji i s = some s1' ∧ ostep rec jx x s1' = some s2 := by
  obtain ⟨a1, a2, a3⟩ := apartB_spec hap
  rw [ostep_eq] at h1 h2
  obtain ⟨⟨vx, hx⟩, e1, rfl⟩ := Option.map_eq_some_iff.1 h1
  obtain ⟨⟨vi, hi⟩, e2, rfl⟩ := Option.map_eq_some_iff.1 h2
  have e2' : oval rec ji i ({ s with h := hx } : St) = some (vi, hi) := by
    rw [← e2]
    refine oval_congr (fun n hn => ?_) ?_
    · exact (put_t _ _ _ _ (a1 n hn)).symm
    · exact (put_h _ _ _).symm
  obtain ⟨h', e3, e4⟩ := hc vx hx vi hi e1 e2'
  refine ⟨({ s with h := h' } : St).put i.dst vi, by rw [ostep_eq, e3]; rfl, ?_⟩
  rw [ostep_eq]
  have e4' : oval rec jx x (({ s with h := h' } : St).put i.dst vi) = some (vx, hi) := by
    rw [← e4]
    refine oval_congr (fun n hn => ?_) ?_
    · exact put_t _ _ _ _ (a2 n hn)
    · exact put_h _ _ _
  rw [e4']
  simp only [Option.map_some, Option.some.injEq]
  rw [put_heap, put_heap]
  exact (put_put _ _ _ _ _ (fun n hn => fun hh => a3 n hh hn))

/-- An append to nil, written so. -/
def onNil : AOp → Bool
  | .app _ _ _ (.k (.v (.one .nils))) _ => true
  | _ => false
theorem oval_a {rec : Rec} {j : Nat} {o : AOper} (ha : o.op.cls = .a) {s : St} {v : T} {h : AH} (hv : oval rec j o s = some (v, h)) : h = s.h ∧ ∀ h', oval rec j o ({ s with h := h' } : St) = some (v, h') := by
  unfold oval at hv ⊢
  simp only [] at hv ⊢
  cases hg : wants s.t o.guard with
  | none => rw [hg] at hv; cases hv
  | some b =>
    rw [hg] at hv
    cases b with
    | false => simp only [Option.some.injEq, Prod.mk.injEq] at hv; obtain ⟨rfl, rfl⟩ := hv; exact ⟨rfl, fun _ => rfl⟩
    | true =>
      simp only [opv, ha] at hv ⊢
      obtain ⟨x, hx, he⟩ := Option.map_eq_some_iff.1 hv
      simp only [Prod.mk.injEq] at he
      obtain ⟨rfl, rfl⟩ := he
      exact ⟨rfl, fun h' => by rw [hx]; rfl⟩
theorem oval_l {rec : Rec} {j : Nat} {o : AOper} (ha : o.op.cls = .l) {s : St} {v : T} {h : AH} (hv : oval rec j o s = some (v, h)) :
    h = s.h ∧ ∀ h', ((wants s.t o.guard = some true → lv s.t h' o.op = some v) → oval rec j o ({ s with h := h' } : St) = some (v, h')) ∧ (wants s.t o.guard = some true → lv s.t s.h o.op = some v) := by
  unfold oval at hv ⊢
  simp only [] at hv ⊢
  cases hg : wants s.t o.guard with
  | none => rw [hg] at hv; cases hv
  | some b =>
    rw [hg] at hv
    cases b with
    | false => simp only [Option.some.injEq, Prod.mk.injEq] at hv; obtain ⟨rfl, rfl⟩ := hv; exact ⟨rfl, fun _ => ⟨fun _ => rfl, fun q => by cases q⟩⟩
    | true =>
      simp only [opv, ha] at hv ⊢
      obtain ⟨x, hx, he⟩ := Option.map_eq_some_iff.1 hv
      simp only [Prod.mk.injEq] at he
      obtain ⟨rfl, rfl⟩ := he
      exact ⟨rfl, fun h' => ⟨fun hl => by rw [hl trivial]; rfl, fun _ => hx⟩⟩
def setO (h : AH) (j : Nat) : Option AObj → AH
  | some ob => h.set j ob
  | none => h
theorem oval_n {rec : Rec} {j : Nat} {o : AOper} (ha : o.op.cls = .n) {s : St} {v : T} {h : AH} (hv : oval rec j o s = some (v, h)) :
    ∃ f : Option AObj, ∀ h', oval rec j o ({ s with h := h' } : St) = some (v, setO (h') j f) := by
  unfold oval at hv ⊢
  simp only [] at hv ⊢
  cases hg : wants s.t o.guard with
  | none => rw [hg] at hv; cases hv
  | some b =>
    rw [hg] at hv
    cases b with
    | false => simp only [Option.some.injEq, Prod.mk.injEq] at hv; obtain ⟨rfl, rfl⟩ := hv; exact ⟨none, fun _ => rfl⟩
    | true =>
      simp only [opv, ha] at hv ⊢
      obtain ⟨⟨x, ob⟩, hx, he⟩ := Option.map_eq_some_iff.1 hv
      simp only [Prod.mk.injEq] at he
      obtain ⟨rfl, rfl⟩ := he
      exact ⟨some ob, fun h' => by rw [hx]; rfl⟩
theorem set_get_ne {h : AH} {i j : Nat} {ob : AObj} (hne : i ≠ j) : (h.set j ob).o i = h.o i := upd_ne _ _ hne
theorem lv_set {ρ : Nat → T} {h : AH} {op : AOp} {v : T} (hv : lv ρ h op = some v) {j : Nat} (hj : h.o j = none) (ob : AObj) : lv ρ (h.set j ob) op = some v := by
  have key : ∀ i o, h.o i = some o → (h.set j ob).o i = some o := fun i o hi => by
    rw [set_get_ne]
    · exact hi
    · intro e; subst e; rw [hj] at hi; cases hi
  have rdk : ∀ i off n l, rdCells h i off n = some l → rdCells (h.set j ob) i off n = some l := by
    intro i off n l hl
    unfold rdCells at hl ⊢
    split at hl
    · rename_i f ro e s cs ho
      rw [key i _ ho]
      exact hl
    · cases hl
  cases op <;> simp only [lv] at hv ⊢ <;> try (cases hv; done)
  case load n x =>
    split at hv
    · rename_i i off hi
      obtain ⟨q, hq, rfl⟩ := Option.map_eq_some_iff.1 hv
      have : ldv (h.set j ob) n i off = some q := by
        unfold ldv at hq ⊢
        cases n with
        | none =>
          obtain ⟨l, hl, hq⟩ := Option.bind_eq_some_iff.1 hq
          simp only [rdk _ _ _ _ hl, Option.bind_some]
          exact hq
        | some n =>
          obtain ⟨l, hl, hq⟩ := Option.map_eq_some_iff.1 hq
          simp only [rdk _ _ _ _ hl, Option.map_some, hq]
      rw [this]; rfl
    · cases hv
  case look ky z ok m k =>
    split at hv
    · rename_i i kk hi hk
      split at hv
      · rename_i ky' kvs ho
        rw [key i _ ho]
        exact hv
      · cases hv
    · cases hv
  case lenm m =>
    split at hv
    · rename_i i hi
      split at hv
      · rename_i ky' kvs ho
        rw [key i _ ho]
        exact hv
      · cases hv
    · cases hv
/-- An append to nil reads no more of the heap than its source. -/
theorem oval_p0 {rec : Rec} {j : Nat} {o : AOper} (ha : onNil o.op = true) {s : St} {v : T} {h : AH} (hv : oval rec j o s = some (v, h)) :
    ∃ f : Option AObj, h = setO (s.h) j f ∧ ∀ k ob', s.h.o k = none → oval rec j o ({ s with h := s.h.set k ob' } : St) = some (v, setO ((s.h.set k ob')) j f) := by
  unfold oval at hv ⊢
  simp only [] at hv ⊢
  cases hg : wants s.t o.guard with
  | none => rw [hg] at hv; cases hv
  | some b =>
    rw [hg] at hv
    cases b with
    | false => simp only [Option.some.injEq, Prod.mk.injEq] at hv; obtain ⟨rfl, rfl⟩ := hv; exact ⟨none, rfl, fun _ _ _ => rfl⟩
    | true =>
      have hop : ∃ e esz bytes x, o.op = .app e esz bytes (.k (.v (.one .nils))) x := by
        unfold onNil at ha
        split at ha
        · rename_i e esz bytes x heq; exact ⟨e, esz, bytes, x, heq⟩
        · cases ha
      obtain ⟨e, esz, bytes, x, hop⟩ := hop
      rw [hop] at hv ⊢
      simp only [opv, AOp.cls, apv, Opd.ev] at hv ⊢
      split at hv
      · rename_i sc xc hs hx
        cases hs
        obtain ⟨⟨m, news⟩, hsrc, hv⟩ := Option.bind_eq_some_iff.1 hv
        have hsrc' : ∀ k ob', s.h.o k = none → srcCells (s.h.set k ob') esz xc = some (m, news) := by
          intro k ob' hk
          cases xc <;> simp only [srcCells] at hsrc ⊢ <;> try (cases hsrc; done)
          case slice i off n =>
            obtain ⟨l, hl, he⟩ := Option.map_eq_some_iff.1 hsrc
            unfold rdCells at hl ⊢
            split at hl
            · rename_i f ro e' s' cs ho
              have hne : i ≠ k := fun q => by subst q; rw [hk] at ho; cases ho
              rw [set_get_ne hne, ho]
              simp only []
              rw [hl]
              simp only [Option.map_some, he]
            · cases hl
          case nils => exact hsrc
        simp only [] at hv
        by_cases hsol : solid news = true
        · rw [if_pos hsol] at hv
          by_cases hm : m = 0
          · rw [if_pos hm] at hv
            simp only [Option.some.injEq, Prod.mk.injEq] at hv
            obtain ⟨rfl, rfl⟩ := hv
            refine ⟨none, rfl, fun k ob' hk => ?_⟩
            simp only [hsrc' k ob' hk, Option.bind_some, hsol, if_true, hm, setO]
          · rw [if_neg hm] at hv
            by_cases hb : 0 < esz ∧ m * bytes ≤ 140737488355328 ∧ m ≤ 9223372036854775807
            · rw [if_pos hb] at hv
              simp only [Option.some.injEq, Prod.mk.injEq] at hv
              obtain ⟨rfl, rfl⟩ := hv
              refine ⟨some _, rfl, fun k ob' hk => ?_⟩
              simp only [hsrc' k ob' hk, Option.bind_some, hsol, if_true]
              rw [if_neg hm, if_pos hb]
              rfl
            · rw [if_neg hb] at hv; cases hv
        · rw [if_neg hsol] at hv; cases hv
      · cases hv
theorem set_set {h : AH} {i j : Nat} {a b : AObj} (hne : i ≠ j) : (h.set i a).set j b = (h.set j b).set i a := by
  unfold AH.set
  simp only [AH.mk.injEq, and_true]
  funext n
  unfold upd
  by_cases h1 : n = j
  · by_cases h2 : n = i
    · exact absurd (h2.symm.trans h1) hne
    · rw [if_pos h1, if_neg h2, if_pos h1]
  · by_cases h2 : n = i
    · rw [if_neg h1, if_pos h2, if_pos h2]
    · rw [if_neg h1, if_neg h2, if_neg h2, if_neg h1]
/-- Which two may change places, the first one before the second in the order at hand; 'held': the second one's result is looked at by the first one's load. -/
def mayB (held : Bool) (x i : AOper) : Bool :=
  match i.op.cls with
  | .a => true
  | .l => x.op.cls == .a || x.op.cls == .l
  | .n => x.op.cls == .a || x.op.cls == .l || x.op.cls == .n || onNil x.op
  | _ => x.op.cls == .a || (x.op.cls == .l && (onNil i.op || held))
theorem may_swap {rec : Rec} {jx ji : Nat} {x i : AOper} {held : Bool} (hm : mayB held x i = true) {s : St} (hji : s.h.o ji = none) (hjx : s.h.o jx = none) (hne : jx ≠ ji)
    (hheld : held = true → ∀ vx hx vi hi, oval rec jx x s = some (vx, hx) → oval rec ji i s = some (vi, hi) → wants s.t x.guard = some true → lv s.t hi x.op = some vx) :
    ∀ vx hx vi hi, oval rec jx x s = some (vx, hx) → oval rec ji i ({ s with h := hx } : St) = some (vi, hi) → ∃ h', oval rec ji i s = some (vi, h') ∧ oval rec jx x ({ s with h := h' } : St) = some (vx, hi) := by
  intro vx hx vi hi e1 e2
  -- x leaves the heap alone and does not look at it
  have xa : x.op.cls = .a → ∃ h', oval rec ji i s = some (vi, h') ∧ oval rec jx x ({ s with h := h' } : St) = some (vx, hi) := by
    intro ha
    obtain ⟨rfl, h2⟩ := oval_a ha e1
    exact ⟨hi, e2, h2 hi⟩
  cases hc : i.op.cls with
  | a =>
    obtain ⟨h1, h2⟩ := oval_a hc e2
    have h1 : hi = hx := h1
    subst h1
    exact ⟨s.h, h2 s.h, e1⟩
  | l =>
    simp only [mayB, hc, Bool.or_eq_true, beq_iff_eq] at hm
    rcases hm with ha | ha
    · exact xa ha
    · obtain ⟨rfl, h2⟩ := oval_l ha e1
      obtain ⟨h1, _⟩ := oval_l hc e2
      have h1 : hi = s.h := h1
      subst h1
      exact ⟨s.h, e2, e1⟩
  | n =>
    simp only [mayB, hc, Bool.or_eq_true, beq_iff_eq] at hm
    obtain ⟨f, hf⟩ := oval_n hc e2
    have hf : ∀ h', oval rec ji i ({ s with h := h' } : St) = some (vi, setO (h') ji f) := hf
    have hhi : hi = setO (hx) ji f := by
      have := hf hx
      rw [e2] at this
      simp only [Option.some.injEq, Prod.mk.injEq, true_and] at this
      exact this
    refine ⟨_, hf s.h, ?_⟩
    rcases hm with ((ha | ha) | ha) | ha
    · obtain ⟨rfl, h2⟩ := oval_a ha e1
      rw [hhi]; exact h2 _
    · obtain ⟨rfl, h2⟩ := oval_l ha e1
      rw [hhi]
      refine (h2 _).1 fun hw => ?_
      have hl := (h2 s.h).2 hw
      cases f with
      | none => exact hl
      | some ob => exact lv_set hl hji ob
    · obtain ⟨g, hg⟩ := oval_n ha e1
      have hhx : hx = setO (s.h) jx g := by
        have := hg s.h
        rw [show ({ s with h := s.h } : St) = s from rfl, e1] at this
        simp only [Option.some.injEq, Prod.mk.injEq, true_and] at this
        exact this
      rw [hhi, hhx, hg]
      cases f <;> cases g <;> simp only [setO] <;> first | done | rw [set_set hne]
    · obtain ⟨g, hhx, hg⟩ := oval_p0 ha e1
      rw [hhi, hhx]
      cases f with
      | none =>
        show oval rec jx x ({ s with h := s.h } : St) = some (vx, setO s.h jx g)
        rw [show ({ s with h := s.h } : St) = s from rfl, e1, hhx]
      | some ob =>
        show oval rec jx x ({ s with h := s.h.set ji ob } : St) = some (vx, (setO s.h jx g).set ji ob)
        rw [hg ji ob hji]
        cases g with
        | none => rfl
        | some ob2 =>
          show some (vx, (s.h.set ji ob).set jx ob2) = some (vx, (s.h.set jx ob2).set ji ob)
          rw [set_set hne]
  | p =>
    simp only [mayB, hc, Bool.or_eq_true, Bool.and_eq_true, beq_iff_eq] at hm
    rcases hm with ha | ⟨ha, hb⟩
    · exact xa ha
    · obtain ⟨rfl, h2⟩ := oval_l ha e1
      refine ⟨hi, e2, (h2 hi).1 fun hw => ?_⟩
      have hl := (h2 s.h).2 hw
      rcases hb with hb | hb
      · obtain ⟨f, hhi, _⟩ := oval_p0 hb (show oval rec ji i s = some (vi, hi) from e2)
        rw [hhi]
        cases f with
        | none => exact hl
        | some ob => exact lv_set hl hji ob
      · exact hheld hb vx s.h vi hi e1 e2 hw
  | s =>
    simp only [mayB, hc, Bool.or_eq_true, Bool.and_eq_true, beq_iff_eq] at hm
    rcases hm with ha | ⟨ha, hb⟩
    · exact xa ha
    · obtain ⟨rfl, h2⟩ := oval_l ha e1
      refine ⟨hi, e2, (h2 hi).1 fun hw => ?_⟩
      rcases hb with hb | hb
      · exfalso
        cases hop : i.op <;> rw [hop] at hb hc <;> simp [onNil, AOp.cls] at hb hc
      · exact hheld hb vx s.h vi hi e1 e2 hw
  | c =>
    simp only [mayB, hc, Bool.or_eq_true, Bool.and_eq_true, beq_iff_eq] at hm
    rcases hm with ha | ⟨ha, hb⟩
    · exact xa ha
    · obtain ⟨rfl, h2⟩ := oval_l ha e1
      refine ⟨hi, e2, (h2 hi).1 fun hw => ?_⟩
      rcases hb with hb | hb
      · exfalso
        cases hop : i.op <;> rw [hop] at hb hc <;> simp [onNil, AOp.cls] at hb hc
      · exact hheld hb vx s.h vi hi e1 e2 hw

end Go.Am
