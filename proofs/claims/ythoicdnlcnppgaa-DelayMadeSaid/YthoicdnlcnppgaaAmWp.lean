/- Rules for what the abstract machine's code does. Conditions: as each theorem says. -/
import Derived.Test.YthoicdnlcnppgaaAmCore
set_option linter.unusedVariables false
set_option linter.unusedSimpArgs false
namespace Go.Am

/-! ### Weakest preconditions of the abstract machine's code -/
def sel (ops : List AOper) : List Nat → List (Nat × AOper)
  | [] => []
  | i :: rest => match ops[i]? with
    | some o => (i, o) :: sel ops rest
    | none => []
def fitsSel (ops : List AOper) : List Nat → Bool
  | [] => true
  | i :: rest => decide (i < ops.length) && fitsSel ops rest
def wpc (rec : Rec) (fuel : Nat) (c : ACode) (s : St) (Q : AExit → St → Prop) : Prop := ∃ e s', exec rec fuel c s = some (e, s') ∧ Q e s'
def wpf (x : Option (T × AH)) (Q : T → AH → Prop) : Prop := ∃ r h', x = some (r, h') ∧ Q r h'
/-- One operation. -/
def wpv (rec : Rec) (j : Nat) (s : St) (op : AOp) (Q : T → AH → Prop) : Prop := wpf (opv rec j s op) Q
def wps (rec : Rec) (base : Nat) : List (Nat × AOper) → St → (St → Prop) → Prop
  | [], s, Q => Q s
  | (i, o) :: rest, s, Q => match o.guard with
    | none => wpv rec (base + i) s o.op fun x h => wps rec base rest (({ s with h := h } : St).put o.dst x) Q
    | some (d, q) => match s.t d with
      | .v (.one (.bool b)) => if b = q then wpv rec (base + i) s o.op fun x h => wps rec base rest (({ s with h := h } : St).put o.dst x) Q
          else wps rec base rest (s.put o.dst (.tup [])) Q
      | .tup [] => wps rec base rest (s.put o.dst (.tup [])) Q
      | _ => False
theorem wpf_some (p : T × AH) (Q : T → AH → Prop) : wpf (some p) Q = Q p.1 p.2 := by
  obtain ⟨r, h⟩ := p
  exact propext ⟨fun ⟨_, _, e, q⟩ => by cases e; exact q, fun q => ⟨_, _, rfl, q⟩⟩
theorem wpf_none (Q : T → AH → Prop) : wpf none Q = False := propext ⟨fun ⟨_, _, e, _⟩ => (by cases e), fun h => h.elim⟩
theorem wpf_mono {x : Option (T × AH)} {Q R : T → AH → Prop} (h : wpf x Q) (hQ : ∀ r h', Q r h' → R r h') : wpf x R := by
  obtain ⟨r, h', e, q⟩ := h
  exact ⟨r, h', e, hQ r h' q⟩
theorem wpc_mono {rec : Rec} {fuel : Nat} {c : ACode} {s : St} {Q R : AExit → St → Prop} (h : wpc rec fuel c s Q) (hQ : ∀ e s', Q e s' → R e s') : wpc rec fuel c s R := by
  obtain ⟨r, h', e, q⟩ := h
  exact ⟨r, h', e, hQ r h' q⟩
theorem wps_run {rec : Rec} {ops : List AOper} {base : Nat} {Q : St → Prop} : ∀ (π : List Nat) (s : St), fitsSel ops π = true → wps rec base (sel ops π) s Q → ∃ s', runOps rec ops [] base π s = some s' ∧ Q s'
  | [], s, _, h => ⟨s, rfl, h⟩
  | i :: rest, s, hf, h => by
    simp only [fitsSel, Bool.and_eq_true, decide_eq_true_eq] at hf
    have ho : ops[i]? = some ops[i] := List.getElem?_eq_getElem hf.1
    simp only [sel, ho] at h
    have skip : wps rec base (sel ops rest) (s.put ops[i].dst (.tup [])) Q → wants s.t ops[i].guard = some false → ∃ s', runOps rec ops [] base (i :: rest) s = some s' ∧ Q s' := by
      intro h hw
      obtain ⟨s', e, q⟩ := wps_run rest _ hf.2 h
      exact ⟨s', by simp [runOps, ho, ostep, hw, holdsOf, e], q⟩
    have go : wpv rec (base + i) s ops[i].op (fun x h => wps rec base (sel ops rest) (({ s with h := h } : St).put ops[i].dst x) Q) → wants s.t ops[i].guard = some true → ∃ s', runOps rec ops [] base (i :: rest) s = some s' ∧ Q s' := by
      intro h hw
      obtain ⟨x, h', e, q⟩ := h
      obtain ⟨s', e', q'⟩ := wps_run rest _ hf.2 q
      exact ⟨s', by simp [runOps, ho, ostep, hw, holdsOf, e, e'], q'⟩
    unfold wps at h
    split at h
    · rename_i hg
      exact go h (by rw [hg]; rfl)
    · rename_i d q hg
      split at h
      · rename_i b hb
        split at h
        · rename_i hbq
          refine go h ?_
          rw [hg]
          simp [wants, hb, hbq]
        · rename_i hbq
          refine skip h ?_
          rw [hg]
          simp only [wants, hb]
          cases b <;> cases q <;> simp_all
      · rename_i hb
        refine skip h ?_
        rw [hg]
        simp [wants, hb]
      · exact h.elim
theorem wpc_skip {rec : Rec} {fuel : Nat} {s : St} {Q : AExit → St → Prop} (h : Q .normal s) : wpc rec fuel .skip s Q := ⟨_, _, rfl, h⟩
theorem wpc_exit {rec : Rec} {fuel id : Nat} {s : St} {Q : AExit → St → Prop} (h : Q (.exit id) s) : wpc rec fuel (.exit id) s Q := ⟨_, _, rfl, h⟩
theorem wpc_ret {rec : Rec} {fuel : Nat} {s : St} {Q : AExit → St → Prop} (h : Q .ret s) : wpc rec fuel .ret s Q := ⟨_, _, rfl, h⟩
theorem wpc_seq {rec : Rec} {fuel : Nat} {a b : ACode} {s : St} {Q : AExit → St → Prop} (h : wpc rec fuel a s fun e s1 => if e = .normal then wpc rec fuel b s1 Q else Q e s1) : wpc rec fuel (.seq a b) s Q := by
  obtain ⟨e, s1, h1, q⟩ := h
  cases e with
  | normal =>
    rw [if_pos rfl] at q
    obtain ⟨e2, s2, h2, q⟩ := q
    exact ⟨e2, s2, by simp [exec, h1, h2], q⟩
  | exit id => exact ⟨_, _, by simp [exec, h1]; exact ⟨rfl, rfl⟩, by simpa using q⟩
  | ret => exact ⟨_, _, by simp [exec, h1]; exact ⟨rfl, rfl⟩, by simpa using q⟩
theorem wpc_region {rec : Rec} {fuel : Nat} {ops : List AOper} {π : List Nat} {s : St} {Q : AExit → St → Prop} (hf : fitsSel ops π = true)
    (h : wps rec s.h.nx (sel ops π) { s with h := { s.h with nx := s.h.nx + ops.length } } (Q .normal)) : wpc rec fuel (.region ops π []) s Q := by
  obtain ⟨s', e, q⟩ := wps_run π _ hf h
  exact ⟨.normal, s', by simp [exec, e], q⟩
theorem wpc_cond {rec : Rec} {fuel : Nat} {c : Opd} {a b : ACode} {keep : List Nat} {s : St} {Q : AExit → St → Prop} {q : Bool} (hc : c.ev s.t = .v (.one (.bool q)))
    (h : if q = true then wpc rec fuel a s (fun e s1 => Q e (keepOnly keep s1)) else wpc rec fuel b s (fun e s1 => Q e (keepOnly keep s1))) : wpc rec fuel (.cond c a b keep) s Q := by
  cases q with
  | true =>
    rw [if_pos rfl] at h
    obtain ⟨e, s1, h1, q⟩ := h
    exact ⟨e, _, by simp [exec, hc, h1], q⟩
  | false =>
    rw [if_neg (by simp)] at h
    obtain ⟨e, s1, h1, q⟩ := h
    exact ⟨e, _, by simp [exec, hc, h1], q⟩
theorem wpc_block {rec : Rec} {fuel id : Nat} {a : ACode} {s : St} {Q : AExit → St → Prop} (h : wpc rec fuel a s fun e s1 => Q (if e = .exit id then .normal else e) s1) : wpc rec fuel (.block id a) s Q := by
  obtain ⟨e, s1, h1, q⟩ := h
  exact ⟨_, _, by simp [exec, h1], q⟩
/-- A loop: an invariant that says how many rounds are left at most. -/
theorem wpc_loop {rec : Rec} {fuel : Nat} {keep : List Nat} {a : ACode} {s : St} {Q : AExit → St → Prop} (I : Nat → St → Prop) (n : Nat) (hn : n < fuel) (h0 : I n (keepOnly keep s))
    (step : ∀ m s, I m s → wpc rec fuel a s fun e s1 => if e = .normal then ∃ m', m' < m ∧ I m' (keepOnly keep s1) else Q e s1) : wpc rec fuel (.loop keep a) s Q := by
  have key : ∀ (m f : Nat) (s : St), m < f → I m s → ∃ e s', rounds (exec rec fuel a) keep f s = some (e, s') ∧ Q e s' := by
    intro m
    induction m using Nat.strongRecOn with
    | ind m ih =>
      intro f s hf hi
      obtain ⟨f, rfl⟩ : ∃ g, f = g + 1 := ⟨f - 1, by omega⟩
      obtain ⟨e, s1, h1, q⟩ := step m s hi
      cases e with
      | normal =>
        rw [if_pos rfl] at q
        obtain ⟨m', hm, hi'⟩ := q
        obtain ⟨e2, s2, h2, q2⟩ := ih m' hm f _ (by omega) hi'
        exact ⟨e2, s2, by simp [rounds, h1, h2], q2⟩
      | exit id => exact ⟨_, _, by simp [rounds, h1]; exact ⟨rfl, rfl⟩, by simpa using q⟩
      | ret => exact ⟨_, _, by simp [rounds, h1]; exact ⟨rfl, rfl⟩, by simpa using q⟩
  obtain ⟨e, s', h1, q⟩ := key n fuel _ hn h0
  exact ⟨e, s', by simp [exec, h1], q⟩
/-- A function called. -/
theorem wpf_call {fs : Nat → Option AFunc} {out : Rec} {k f : Nat} {fn : AFunc} {args : List T} {h : AH} {Q : T → AH → Prop} (hf : fs f = some fn) (hl : args.length = fn.np)
    (hb : wpc (acall fs out k) k fn.body { t := tmps0 args, h := h } fun e s => (e = .normal ∨ e = .ret) ∧ ∃ r, resc s fn.cell fn.res = some r ∧ Q r s.h) : wpf (acall fs out (k + 1) f args h) Q := by
  obtain ⟨e, s, h1, he, r, hr, q⟩ := hb
  exact ⟨r, s.h, by simp [acall, hf, hl, h1, he, hr], q⟩
theorem wpv_a {rec : Rec} {j : Nat} {s : St} {op : AOp} {Q : T → AH → Prop} {x : T} (hc : op.cls = .a) (hx : pv s.t op = some x) (h : Q x s.h) : wpv rec j s op Q := ⟨x, s.h, by simp [opv, hc, hx], h⟩
theorem wpv_l {rec : Rec} {j : Nat} {s : St} {op : AOp} {Q : T → AH → Prop} {x : T} (hc : op.cls = .l) (hx : lv s.t s.h op = some x) (h : Q x s.h) : wpv rec j s op Q := ⟨x, s.h, by simp [opv, hc, hx], h⟩
theorem wpv_n {rec : Rec} {j : Nat} {s : St} {op : AOp} {Q : T → AH → Prop} {x : T} {o : AObj} (hc : op.cls = .n) (hx : nv s.t j op = some (x, o)) (h : Q x (s.h.set j o)) : wpv rec j s op Q := ⟨x, _, by simp [opv, hc, hx], h⟩
theorem wpv_p {rec : Rec} {j : Nat} {s : St} {op : AOp} {Q : T → AH → Prop} {x : T} {h' : AH} (hc : op.cls = .p) (hx : apv s.t s.h j op = some (x, h')) (h : Q x h') : wpv rec j s op Q := ⟨x, _, by simp [opv, hc, hx], h⟩
theorem wpv_s {rec : Rec} {j : Nat} {s : St} {op : AOp} {Q : T → AH → Prop} {x : T} {h' : AH} (hc : op.cls = .s) (hx : sv s.t s.h op = some (x, h')) (h : Q x h') : wpv rec j s op Q := ⟨x, _, by simp [opv, hc, hx], h⟩
theorem wpv_c {rec : Rec} {j : Nat} {s : St} {f : Nat} {args : List Opd} {Q : T → AH → Prop} (h : wpf (rec f (args.map fun x => x.ev s.t) s.h) Q) : wpv rec j s (.call f args) Q := h
/-! As equations, for simp. -/
theorem seq_iff {rec : Rec} {fuel : Nat} {a b : ACode} {s : St} {Q : AExit → St → Prop} : wpc rec fuel (.seq a b) s Q ↔ wpc rec fuel a s fun e s1 => match e with | .normal => wpc rec fuel b s1 Q | e => Q e s1 := by
  constructor
  · rintro ⟨e, s', h, q⟩
    simp only [exec] at h
    obtain ⟨⟨e1, s1⟩, h1, h2⟩ := Option.bind_eq_some_iff.1 h
    refine ⟨e1, s1, h1, ?_⟩
    cases e1 with
    | normal => exact ⟨e, s', h2, q⟩
    | exit id => simp only [Option.some.injEq, Prod.mk.injEq] at h2; obtain ⟨rfl, rfl⟩ := h2; exact q
    | ret => simp only [Option.some.injEq, Prod.mk.injEq] at h2; obtain ⟨rfl, rfl⟩ := h2; exact q
  · intro h
    refine wpc_seq (wpc_mono h fun e s1 h => ?_)
    cases e <;> simpa using h
/-- What was there is there still. -/
def AH.le (h h' : AH) : Prop := h.nx ≤ h'.nx ∧ ∀ j, j < h.nx → h'.o j = h.o j
theorem AH.le_refl (h : AH) : h.le h := ⟨Nat.le_refl _, fun _ _ => rfl⟩
theorem AH.le_trans {a b c : AH} (h : a.le b) (k : b.le c) : a.le c := ⟨Nat.le_trans h.1 k.1, fun j hj => (k.2 j (by have := h.1; omega)).trans (h.2 j hj)⟩
/-! One operation, as equations for simp. -/
def onSome {α : Type} (o : Option α) (Q : α → Prop) : Prop := match o with
  | some x => Q x
  | none => False
@[simp] theorem onSome_some {α : Type} (x : α) (Q : α → Prop) : onSome (some x) Q = Q x := rfl
@[simp] theorem onSome_none {α : Type} (Q : α → Prop) : onSome none Q = False := rfl
@[simp] theorem onSome_map {α β : Type} (o : Option α) (f : α → β) (Q : β → Prop) : onSome (o.map f) Q = onSome o fun x => Q (f x) := by cases o <;> rfl
@[simp] theorem onSome_bind {α β : Type} (o : Option α) (f : α → Option β) (Q : β → Prop) : onSome (o.bind f) Q = onSome o fun x => onSome (f x) Q := by cases o <;> rfl
@[simp] theorem onSome_ite {α : Type} (c : Prop) [Decidable c] (x y : Option α) (Q : α → Prop) : onSome (if c then x else y) Q = if c then onSome x Q else onSome y Q := by split <;> rfl
theorem wpv_pv {rec : Rec} {j : Nat} {s : St} {op : AOp} {Q : T → AH → Prop} (hc : op.cls = .a) : wpv rec j s op Q = onSome (pv s.t op) fun x => Q x s.h := by
  unfold wpv
  simp only [opv, hc]
  cases pv s.t op <;> simp [wpf_some, wpf_none]
theorem wpv_lv {rec : Rec} {j : Nat} {s : St} {op : AOp} {Q : T → AH → Prop} (hc : op.cls = .l) : wpv rec j s op Q = onSome (lv s.t s.h op) fun x => Q x s.h := by
  unfold wpv
  simp only [opv, hc]
  cases lv s.t s.h op <;> simp [wpf_some, wpf_none]
theorem wpv_nv {rec : Rec} {j : Nat} {s : St} {op : AOp} {Q : T → AH → Prop} (hc : op.cls = .n) : wpv rec j s op Q = onSome (nv s.t j op) fun p => Q p.1 (s.h.set j p.2) := by
  unfold wpv
  simp only [opv, hc]
  cases nv s.t j op <;> simp [wpf_some, wpf_none]
theorem wpv_apv {rec : Rec} {j : Nat} {s : St} {op : AOp} {Q : T → AH → Prop} (hc : op.cls = .p) : wpv rec j s op Q = onSome (apv s.t s.h j op) fun p => Q p.1 p.2 := by
  unfold wpv
  simp only [opv, hc]
  cases apv s.t s.h j op <;> simp [wpf_some, wpf_none]
theorem wpv_sv {rec : Rec} {j : Nat} {s : St} {op : AOp} {Q : T → AH → Prop} (hc : op.cls = .s) : wpv rec j s op Q = onSome (sv s.t s.h op) fun p => Q p.1 p.2 := by
  unfold wpv
  simp only [opv, hc]
  cases sv s.t s.h op <;> simp [wpf_some, wpf_none]
section
variable {rec : Rec} {j : Nat} {s : St} {Q : T → AH → Prop}
theorem w_mov (x : Opd) : wpv rec j s (.mov x) Q = (onSome (pv s.t (.mov x)) fun x => Q x s.h) := wpv_pv rfl
theorem w_pick (c : Opd) (a : Opd) (b : Opd) : wpv rec j s (.pick c a b) Q = (onSome (pv s.t (.pick c a b)) fun x => Q x s.h) := wpv_pv rfl
theorem w_bin (o : BinOp) (x : Opd) (y : Opd) : wpv rec j s (.bin o x y) Q = (onSome (pv s.t (.bin o x y)) fun x => Q x s.h) := wpv_pv rfl
theorem w_eqb (n : Bool) (x : Opd) (y : Opd) : wpv rec j s (.eqb n x y) Q = (onSome (pv s.t (.eqb n x y)) fun x => Q x s.h) := wpv_pv rfl
theorem w_eqp (n : Bool) (x : Opd) : wpv rec j s (.eqp n x) Q = (onSome (pv s.t (.eqp n x)) fun x => Q x s.h) := wpv_pv rfl
theorem w_eqs (n : Bool) (sh : List Bool) (x : Opd) (y : Opd) : wpv rec j s (.eqs n sh x y) Q = (onSome (pv s.t (.eqs n sh x y)) fun x => Q x s.h) := wpv_pv rfl
theorem w_not (x : Opd) : wpv rec j s (.not x) Q = (onSome (pv s.t (.not x)) fun x => Q x s.h) := wpv_pv rfl
theorem w_conv (k : IntKind) (x : Opd) : wpv rec j s (.conv k x) Q = (onSome (pv s.t (.conv k x)) fun x => Q x s.h) := wpv_pv rfl
theorem w_nilchk (x : Opd) : wpv rec j s (.nilchk x) Q = (onSome (pv s.t (.nilchk x)) fun x => Q x s.h) := wpv_pv rfl
theorem w_fadr (o : Nat) (x : Opd) : wpv rec j s (.fadr o x) Q = (onSome (pv s.t (.fadr o x)) fun x => Q x s.h) := wpv_pv rfl
theorem w_iadr (e : Nat) (x : Opd) (y : Opd) : wpv rec j s (.iadr e x y) Q = (onSome (pv s.t (.iadr e x y)) fun x => Q x s.h) := wpv_pv rfl
theorem w_iadrA (n : Nat) (e : Nat) (x : Opd) (y : Opd) : wpv rec j s (.iadrA n e x y) Q = (onSome (pv s.t (.iadrA n e x y)) fun x => Q x s.h) := wpv_pv rfl
theorem w_ext (i : Nat) (x : Opd) : wpv rec j s (.ext i x) Q = (onSome (pv s.t (.ext i x)) fun x => Q x s.h) := wpv_pv rfl
theorem w_len (x : Opd) : wpv rec j s (.len x) Q = (onSome (pv s.t (.len x)) fun x => Q x s.h) := wpv_pv rfl
theorem w_slc (e : Nat) (x : Opd) (lo : Option Opd) (hi : Option Opd) : wpv rec j s (.slc e x lo hi) Q = (onSome (pv s.t (.slc e x lo hi)) fun x => Q x s.h) := wpv_pv rfl
theorem w_build (z : List Cell) (ps : List (Nat × Nat × Opd)) : wpv rec j s (.build z ps) Q = (onSome (pv s.t (.build z ps)) fun x => Q x s.h) := wpv_pv rfl
theorem w_max2 (x : Opd) (y : Opd) : wpv rec j s (.max2 x y) Q = (onSome (pv s.t (.max2 x y)) fun x => Q x s.h) := wpv_pv rfl
theorem w_load (n : Option Nat) (x : Opd) : wpv rec j s (.load n x) Q = (onSome (lv s.t s.h (.load n x)) fun x => Q x s.h) := wpv_lv rfl
theorem w_look (ky : Key) (z : AV) (ok : Bool) (m : Opd) (x : Opd) : wpv rec j s (.look ky z ok m x) Q = (onSome (lv s.t s.h (.look ky z ok m x)) fun x => Q x s.h) := wpv_lv rfl
theorem w_lenm (x : Opd) : wpv rec j s (.lenm x) Q = (onSome (lv s.t s.h (.lenm x)) fun x => Q x s.h) := wpv_lv rfl
theorem w_new (e : Nat) (cs : List Cell) : wpv rec j s (.new e cs) Q = (onSome (nv s.t j (.new e cs)) fun p => Q p.1 (s.h.set j p.2)) := wpv_nv rfl
theorem w_box (e : Nat) (n : Nat) (x : Opd) : wpv rec j s (.box e n x) Q = (onSome (nv s.t j (.box e n x)) fun p => Q p.1 (s.h.set j p.2)) := wpv_nv rfl
theorem w_mks (e : Nat) (es : Nat) (b : Nat) (z : List Cell) (x : Opd) (y : Opd) : wpv rec j s (.mks e es b z x y) Q = (onSome (nv s.t j (.mks e es b z x y)) fun p => Q p.1 (s.h.set j p.2)) := wpv_nv rfl
theorem w_bsl (e : Nat) (es : Nat) (l : Nat) (z : List Cell) (ps : List (Nat × Nat × Opd)) : wpv rec j s (.bsl e es l z ps) Q = (onSome (nv s.t j (.bsl e es l z ps)) fun p => Q p.1 (s.h.set j p.2)) := wpv_nv rfl
theorem w_mkm (ky : Key) : wpv rec j s (.mkm ky) Q = (onSome (nv s.t j (.mkm ky)) fun p => Q p.1 (s.h.set j p.2)) := wpv_nv rfl
theorem w_app (e : Nat) (es : Nat) (b : Nat) (x : Opd) (y : Opd) : wpv rec j s (.app e es b x y) Q = (onSome (apv s.t s.h j (.app e es b x y)) fun p => Q p.1 p.2) := wpv_apv rfl
theorem w_store (n : Nat) (x : Opd) (y : Opd) : wpv rec j s (.store n x y) Q = (onSome (sv s.t s.h (.store n x y)) fun p => Q p.1 p.2) := wpv_sv rfl
theorem w_mupd (ky : Key) (m : Opd) (x : Opd) (y : Opd) : wpv rec j s (.mupd ky m x y) Q = (onSome (sv s.t s.h (.mupd ky m x y)) fun p => Q p.1 p.2) := wpv_sv rfl
theorem w_cpy (e : Nat) (x : Opd) (y : Opd) : wpv rec j s (.cpy e x y) Q = (onSome (sv s.t s.h (.cpy e x y)) fun p => Q p.1 p.2) := wpv_sv rfl
theorem w_call (f : Nat) (l : List Opd) : wpv rec j s (.call f l) Q = wpf (rec f (l.map fun x => x.ev s.t) s.h) Q := rfl
end
attribute [local simp] w_mov w_pick w_bin w_eqb w_eqp w_eqs w_not w_conv w_nilchk w_fadr w_iadr w_iadrA w_ext w_len w_slc w_build w_max2 w_load w_look w_lenm w_new w_box w_mks w_bsl w_mkm w_app w_store w_mupd w_cpy w_call
attribute [local simp] sel pv lv nv apv sv Opd.ev St.put AV.cells solid ldv rdCells binI fillA setAt bnd reps srcCells mfind mput eqc
theorem AH.set_o (h : AH) (j i : Nat) (x : AObj) : (h.set j x).o i = if i = j then some x else h.o i := rfl
theorem AH.set_nx (h : AH) (j : Nat) (x : AObj) : (h.set j x).nx = h.nx := rfl
theorem upd_app {α : Type} (f : Nat → α) (i j : Nat) (x : α) : upd f i x j = if j = i then x else f j := rfl
@[simp] theorem updT_app (f : Nat → T) (i j : Nat) (x : T) : upd f i x j = if j = i then x else f j := rfl
@[simp] theorem updO_same (f : Nat → Option AObj) (i : Nat) (x : Option AObj) : upd f i x i = x := by simp [upd]
/-- Two numbers of objects that differ: the one thing that is asked of omega on the way. -/
structure NE (a b : Nat) : Prop where
  ne : a ≠ b
@[simp] theorem updO_ne (f : Nat → Option AObj) (i j : Nat) (x : Option AObj) (h : NE j i) : upd f i x j = f j := by simp [upd, h.ne]
@[simp] theorem AH.set_mk (h : AH) (j : Nat) (x : AObj) : h.set j x = ⟨upd h.o j (some x), h.nx⟩ := rfl
@[simp] theorem updO_twice (f : Nat → Option AObj) (i : Nat) (x y : Option AObj) : upd (upd f i x) i y = upd f i y := by funext n; unfold upd; split <;> rfl
section
variable {rec : Rec} {base i d : Nat} {dst : Option Nat} {op : AOp} {rest : List (Nat × AOper)} {s : St} {Q : St → Prop}
@[simp] theorem wps_nil : wps rec base [] s Q = Q s := rfl
@[simp] theorem wps_none : wps rec base ((i, ⟨dst, op, none⟩) :: rest) s Q = wpv rec (base + i) s op fun x h => wps rec base rest (({ s with h := h } : St).put dst x) Q := rfl
theorem wps_yes {b q : Bool} (h : s.t d = .v (.one (.bool b))) (hb : b = q) : wps rec base ((i, ⟨dst, op, some (d, q)⟩) :: rest) s Q = wpv rec (base + i) s op fun x h => wps rec base rest (({ s with h := h } : St).put dst x) Q := by
  rw [wps]; simp [h, hb]
theorem wps_no {b q : Bool} (h : s.t d = .v (.one (.bool b))) (hb : ¬ b = q) : wps rec base ((i, ⟨dst, op, some (d, q)⟩) :: rest) s Q = wps rec base rest (s.put dst (.tup [])) Q := by
  rw [wps]; simp [h, hb]
@[simp] theorem wps_tt (h : s.t d = .v (.one (.bool true))) : wps rec base ((i, ⟨dst, op, some (d, true)⟩) :: rest) s Q = wpv rec (base + i) s op fun x h => wps rec base rest (({ s with h := h } : St).put dst x) Q := wps_yes h rfl
@[simp] theorem wps_ff (h : s.t d = .v (.one (.bool false))) : wps rec base ((i, ⟨dst, op, some (d, false)⟩) :: rest) s Q = wpv rec (base + i) s op fun x h => wps rec base rest (({ s with h := h } : St).put dst x) Q := wps_yes h rfl
@[simp] theorem wps_tf (h : s.t d = .v (.one (.bool false))) : wps rec base ((i, ⟨dst, op, some (d, true)⟩) :: rest) s Q = wps rec base rest (s.put dst (.tup [])) Q := wps_no h (by simp)
@[simp] theorem wps_ft (h : s.t d = .v (.one (.bool true))) : wps rec base ((i, ⟨dst, op, some (d, false)⟩) :: rest) s Q = wps rec base rest (s.put dst (.tup [])) Q := wps_no h (by simp)
@[simp] theorem wps_un {q : Bool} (h : s.t d = .tup []) : wps rec base ((i, ⟨dst, op, some (d, q)⟩) :: rest) s Q = wps rec base rest (s.put dst (.tup [])) Q := by
  rw [wps]; simp [h]
/-- A guard that isn't known. -/
theorem wps_guard {b q : Bool} (h : s.t d = .v (.one (.bool b))) (hy : b = true → wps rec base ((i, ⟨dst, op, some (d, q)⟩) :: rest) { s with t := upd s.t d (.v (.one (.bool true))) } Q)
    (hn : b = false → wps rec base ((i, ⟨dst, op, some (d, q)⟩) :: rest) { s with t := upd s.t d (.v (.one (.bool false))) } Q) : wps rec base ((i, ⟨dst, op, some (d, q)⟩) :: rest) s Q := by
  have e : ∀ c : Bool, b = c → ({ s with t := upd s.t d (.v (.one (.bool c))) } : St) = s := by
    intro c hc
    subst hc
    obtain ⟨t, hh⟩ := s
    congr 1
    funext j
    simp only [upd]
    split
    · rename_i hj; subst hj; exact h.symm
    · rfl
  cases hb : b with
  | true => have := hy hb; rwa [e true hb] at this
  | false => have := hn hb; rwa [e false hb] at this
end
@[simp] theorem wpc_ret_eq {rec : Rec} {fuel : Nat} {s : St} {Q : AExit → St → Prop} : wpc rec fuel .ret s Q = Q .ret s := propext ⟨fun ⟨_, _, e, q⟩ => by simp [exec] at e; obtain ⟨rfl, rfl⟩ := e; exact q, wpc_ret⟩
@[simp] theorem wpc_skip_eq {rec : Rec} {fuel : Nat} {s : St} {Q : AExit → St → Prop} : wpc rec fuel .skip s Q = Q .normal s := propext ⟨fun ⟨_, _, e, q⟩ => by simp [exec] at e; obtain ⟨rfl, rfl⟩ := e; exact q, wpc_skip⟩
@[simp] theorem wpc_exit_eq {rec : Rec} {fuel id : Nat} {s : St} {Q : AExit → St → Prop} : wpc rec fuel (.exit id) s Q = Q (.exit id) s := propext ⟨fun ⟨_, _, e, q⟩ => by simp [exec] at e; obtain ⟨rfl, rfl⟩ := e; exact q, wpc_exit⟩
@[simp] theorem resc_one (s : St) (r : Nat) : resc s none [r] = some (s.t r) := rfl
theorem AH.le_mk {a : AH} {o : Nat → Option AObj} {n : Nat} (h1 : a.nx ≤ n) (h2 : ∀ j, j < a.nx → o j = a.o j) : a.le ⟨o, n⟩ := ⟨h1, h2⟩
@[simp] theorem tmps0_zero (a : T) (l : List T) : tmps0 (a :: l) 0 = a := rfl
@[simp] theorem tmps0_succ (a : T) (l : List T) (n : Nat) : tmps0 (a :: l) (n + 1) = tmps0 l n := by simp [tmps0]
@[simp] theorem tmps0_nil (n : Nat) : tmps0 [] n = .tup [] := rfl
theorem keepOnly_t (ks : List Nat) (s : St) (n : Nat) : (keepOnly ks s).t n = if ks.contains n then s.t n else .junk := rfl
/-- What is kept of temps. -/
def kp (ks : List Nat) (t : Nat → T) : Nat → T := fun n => if ks.contains n then t n else .junk
@[simp ↓] theorem keepOnly_eq (ks : List Nat) (s : St) : keepOnly ks s = ⟨kp ks s.t, s.h⟩ := rfl
@[simp] theorem kp_app (ks : List Nat) (t : Nat → T) (n : Nat) : kp ks t n = if ks.contains n then t n else .junk := rfl
@[simp] theorem kp_upd (ks : List Nat) (t : Nat → T) (i : Nat) (x : T) : kp ks (upd t i x) = if ks.contains i then upd (kp ks t) i x else kp ks t := by
  funext n
  unfold kp upd
  by_cases h : n = i
  · subst h; cases hc : ks.contains n <;> simp only [if_true, if_false, Bool.false_eq_true, hc]
  · cases hc : ks.contains i <;> simp only [if_true, if_false, Bool.false_eq_true, h]
@[simp] theorem kp_kp (ks : List Nat) (t : Nat → T) : kp ks (kp ks t) = kp ks t := by funext n; unfold kp; split <;> rfl
@[simp] theorem updT_twice (f : Nat → T) (i : Nat) (x y : T) : upd (upd f i x) i y = upd f i y := by funext n; unfold upd; split <;> rfl
theorem keepOnly_h (ks : List Nat) (s : St) : (keepOnly ks s).h = s.h := rfl
@[simp] theorem resc_cell (s : St) (n : Option Nat) (r : Nat) : resc s (some n) [r] = match s.t r with
    | .v (.one (.ptr j off)) => (ldv s.h n j off).map .v
    | _ => none := rfl
@[simp] theorem killIf_zero {f j0 : Nat} {o : Nat → Option AObj} : killIf 0 f j0 o = o := rfl
@[simp] theorem killIf_succ {n f j0 : Nat} {o : Nat → Option AObj} : killIf (n + 1) f j0 o = killBut f j0 o := rfl
/-- Objects that were there before a family was are not given up with it. -/
theorem killBut_old {f j0 j : Nat} {o : Nat → Option AObj} (h : j < f) : killBut f j0 o j = o j := by
  unfold killBut
  split
  · rename_i ho
    rw [if_neg (fun hc => by omega), ho]
  · rfl
theorem kill_old {f n j : Nat} {o : Nat → Option AObj} (h : j < f) : kill f n o j = o j := by
  unfold kill
  split
  · rename_i ho
    rw [if_neg (fun hc => by omega), ho]
  · rfl
theorem killBut_fam {f j0 j f' e s : Nat} {ro : Bool} {cs : List Cell} {o : Nat → Option AObj} (h : o j = some (.cells f' ro e s cs)) (hf : f' ≠ f) : killBut f j0 o j = some (.cells f' ro e s cs) := by
  unfold killBut
  simp only [h]
  rw [if_neg (fun hc => hf hc.1)]
theorem kill_fam {f n j f' e s : Nat} {ro : Bool} {cs : List Cell} {o : Nat → Option AObj} (h : o j = some (.cells f' ro e s cs)) (hf : f' ≠ f) : kill f n o j = some (.cells f' ro e s cs) := by
  unfold kill
  simp only [h]
  rw [if_neg (fun hc => hf hc.1)]
theorem killBut_map {f j0 j : Nat} {k : Key} {kvs : List (AV × AV)} {o : Nat → Option AObj} (h : o j = some (.map k kvs)) : killBut f j0 o j = some (.map k kvs) := by
  unfold killBut
  simp only [h]
theorem kill_map {f n j : Nat} {k : Key} {kvs : List (AV × AV)} {o : Nat → Option AObj} (h : o j = some (.map k kvs)) : kill f n o j = some (.map k kvs) := by
  unfold kill
  simp only [h]
/-- The heap is told by what is known of it. -/
theorem abs_heap {rec : Rec} {fuel : Nat} {c : ACode} {s : St} {Q : AExit → St → Prop} (K : AH → Prop) (hp : K s.h) (h : ∀ h', K h' → wpc rec fuel c { s with h := h' } Q) : wpc rec fuel c s Q := h s.h hp
theorem acall_out {fs : Nat → Option AFunc} {out : Rec} {k f : Nat} {args : List T} {h : AH} (hf : fs f = none) : acall fs out (k + 1) f args h = out f args h := by simp [acall, hf]
theorem AH.le_set {a b : AH} {j : Nat} {x : AObj} (h : a.le b) (hj : a.nx ≤ j) : a.le (b.set j x) := ⟨h.1, fun i hi => by rw [AH.set_o, if_neg (by omega)]; exact h.2 i hi⟩
theorem AH.le_nx {a : AH} {b : AH} {n : Nat} (h : a.le b) (hn : b.nx ≤ n) : a.le ⟨b.o, n⟩ := ⟨Nat.le_trans h.1 hn, h.2⟩

end Go.Am
