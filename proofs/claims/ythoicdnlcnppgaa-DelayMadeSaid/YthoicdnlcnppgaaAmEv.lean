/- Rules for what the abstract machine's code does with whatever fuel it takes. Conditions: as each theorem says. -/
import Derived.Test.YthoicdnlcnppgaaAmWp
set_option linter.unusedVariables false
set_option linter.unusedSimpArgs false
namespace Go.Am

/-! ### Fuel does not matter -/
def Rec.below (r r' : Rec) : Prop := ∀ f args h x, r f args h = some x → r' f args h = some x
theorem opv_up {r r' : Rec} (hr : Rec.below r r') {j : Nat} {s : St} {op : AOp} {x : T × AH} (h : opv r j s op = some x) : opv r' j s op = some x := by
  unfold opv at h ⊢
  cases hc : op.cls <;> simp only [hc] at h ⊢ <;> try exact h
  cases op <;> simp only at h ⊢ <;> try exact h
  exact hr _ _ _ _ h
theorem ostep_up {r r' : Rec} (hr : Rec.below r r') {j : Nat} {o : AOper} {s s' : St} (h : ostep r j o s = some s') : ostep r' j o s = some s' := by
  unfold ostep at h ⊢
  split at h
  · obtain ⟨x, hx, e⟩ := Option.map_eq_some_iff.1 h
    rw [opv_up hr hx]; simp only [Option.map_some, e]
  · exact h
  · cases h
theorem runOps_up {r r' : Rec} (hr : Rec.below r r') {ops : List AOper} {holds : List (Nat × List Nat)} {base : Nat} : ∀ (π : List Nat) (s s' : St), runOps r ops holds base π s = some s' → runOps r' ops holds base π s = some s'
  | [], s, s', h => h
  | i :: rest, s, s', h => by
    simp only [runOps] at h ⊢
    split at h
    · obtain ⟨s1, h1, h2⟩ := Option.bind_eq_some_iff.1 h
      rw [ostep_up hr h1]
      simp only [Option.bind_some]
      split at h2
      · rename_i hh
        rw [if_pos hh]
        exact runOps_up hr rest _ _ h2
      · cases h2
    · cases h
theorem rounds_up {b b' : St → Option (AExit × St)} (hb : ∀ s y, b s = some y → b' s = some y) {keep : List Nat} : ∀ (k k' : Nat) (s : St) (y : AExit × St), k ≤ k' → rounds b keep k s = some y → rounds b' keep k' s = some y
  | 0, _, _, _, _, h => by cases h
  | k + 1, 0, _, _, hk, _ => by omega
  | k + 1, k' + 1, s, y, hk, h => by
    simp only [rounds] at h ⊢
    obtain ⟨⟨e, s1⟩, h1, h2⟩ := Option.bind_eq_some_iff.1 h
    rw [hb _ _ h1]
    cases e with
    | normal => exact rounds_up hb k k' _ _ (by omega) h2
    | exit id => exact h2
    | ret => exact h2
theorem exec_up {r r' : Rec} (hr : Rec.below r r') {k k' : Nat} (hk : k ≤ k') : ∀ (c : ACode) (s : St) (y : AExit × St), exec r k c s = some y → exec r' k' c s = some y := by
  intro c
  induction c with
  | skip => intro s y h; exact h
  | region ops π holds =>
    intro s y h
    simp only [exec] at h ⊢
    obtain ⟨s1, h1, e⟩ := Option.map_eq_some_iff.1 h
    rw [runOps_up hr _ _ _ h1]; simp only [Option.map_some, e]
  | seq a b iha ihb =>
    intro s y h
    simp only [exec] at h ⊢
    obtain ⟨⟨e, s1⟩, h1, h2⟩ := Option.bind_eq_some_iff.1 h
    rw [iha _ _ h1]
    cases e with
    | normal => exact ihb _ _ h2
    | exit id => exact h2
    | ret => exact h2
  | cond c a b keep iha ihb =>
    intro s y h
    simp only [exec] at h ⊢
    split at h
    · rename_i q hq
      obtain ⟨⟨e, s1⟩, h1, e2⟩ := Option.map_eq_some_iff.1 h
      cases q with
      | true => simp only [if_true] at h1 ⊢; rw [iha _ _ h1]; simp only [Option.map_some, e2]
      | false => simp only [Bool.false_eq_true, if_false] at h1 ⊢; rw [ihb _ _ h1]; simp only [Option.map_some, e2]
    · cases h
  | block id a iha =>
    intro s y h
    simp only [exec] at h ⊢
    obtain ⟨⟨e, s1⟩, h1, e2⟩ := Option.map_eq_some_iff.1 h
    rw [iha _ _ h1]; simp only [Option.map_some, e2]
  | loop keep a iha =>
    intro s y h
    simp only [exec] at h ⊢
    exact rounds_up iha _ _ _ _ hk h
  | exit id => intro s y h; exact h
  | ret => intro s y h; exact h
theorem acall_up {fs : Nat → Option AFunc} {out : Rec} : ∀ (k k' : Nat), k ≤ k' → Rec.below (acall fs out k) (acall fs out k')
  | 0, _, _ => fun f args h x e => by cases e
  | k + 1, 0, hk => by omega
  | k + 1, k' + 1, hk => by
    intro f args h x e
    have hr := acall_up k k' (by omega) (fs := fs) (out := out)
    simp only [acall] at e ⊢
    split at e
    · rename_i fn hf
      split at e
      · rename_i hl
        rw [if_pos hl]
        obtain ⟨⟨y, s⟩, h1, h2⟩ := Option.bind_eq_some_iff.1 e
        rw [exec_up hr (by omega : k ≤ k') _ _ _ h1]
        exact h2
      · cases e
    · exact e
/-- A table with more functions. -/
theorem acall_ext {fs fs' : Nat → Option AFunc} {out : Rec} (h1 : ∀ f fn, fs f = some fn → fs' f = some fn) (h2 : ∀ f, fs f = none → fs' f ≠ none → ∀ args h, out f args h = none) : ∀ k, Rec.below (acall fs out k) (acall fs' out k)
  | 0 => fun f args h x e => by cases e
  | k + 1 => by
    intro f args h x e
    have hr := acall_ext h1 h2 k
    simp only [acall] at e ⊢
    split at e
    · rename_i fn hf
      rw [h1 f fn hf]
      split at e
      · rename_i hl
        simp only []
        rw [if_pos hl]
        obtain ⟨⟨y, s⟩, h1, h2⟩ := Option.bind_eq_some_iff.1 e
        rw [exec_up hr (Nat.le_refl k) _ _ _ h1]
        exact h2
      · cases e
    · rename_i hf
      cases hf' : fs' f with
      | none => exact e
      | some fn => rw [h2 f hf (by rw [hf']; simp)] at e; cases e
/-! ### Weakest preconditions with whatever fuel it takes -/
def wF (fs : Nat → Option AFunc) (out : Rec) (f : Nat) (args : List T) (h : AH) (Q : T → AH → Prop) : Prop := ∃ r h', (∃ k, acall fs out k f args h = some (r, h')) ∧ Q r h'
def wC (fs : Nat → Option AFunc) (out : Rec) (c : ACode) (s : St) (Q : AExit → St → Prop) : Prop := ∃ e s', (∃ k, exec (acall fs out k) k c s = some (e, s')) ∧ Q e s'
def wV (fs : Nat → Option AFunc) (out : Rec) (j : Nat) (t : Nat → T) (h : AH) (op : AOp) (Q : T → AH → Prop) : Prop := ∃ x h', (∃ k, opv (acall fs out k) j ⟨t, h⟩ op = some (x, h')) ∧ Q x h'
def wS (fs : Nat → Option AFunc) (out : Rec) (base : Nat) : List (Nat × AOper) → (Nat → T) → AH → (St → Prop) → Prop
  | [], t, h, Q => Q ⟨t, h⟩
  | (i, ⟨some e, op, none⟩) :: rest, t, h, Q => wV fs out (base + i) t h op fun x h' => wS fs out base rest (upd t e x) h' Q
  | (i, ⟨none, op, none⟩) :: rest, t, h, Q => wV fs out (base + i) t h op fun _ h' => wS fs out base rest t h' Q
  | (i, ⟨some e, op, some (d, q)⟩) :: rest, t, h, Q => match t d with
      | .v (.one (.bool b)) => if b = q then wV fs out (base + i) t h op fun x h' => wS fs out base rest (upd t e x) h' Q
          else wS fs out base rest (upd t e (.tup [])) h Q
      | .tup [] => wS fs out base rest (upd t e (.tup [])) h Q
      | _ => False
  | (i, ⟨none, op, some (d, q)⟩) :: rest, t, h, Q => match t d with
      | .v (.one (.bool b)) => if b = q then wV fs out (base + i) t h op fun _ h' => wS fs out base rest t h' Q
          else wS fs out base rest t h Q
      | .tup [] => wS fs out base rest t h Q
      | _ => False
section
variable {fs : Nat → Option AFunc} {out : Rec}
theorem wF_mono {f : Nat} {args : List T} {h : AH} {Q R : T → AH → Prop} (hw : wF fs out f args h Q) (hQ : ∀ r h', Q r h' → R r h') : wF fs out f args h R := by
  obtain ⟨r, h', e, q⟩ := hw
  exact ⟨r, h', e, hQ r h' q⟩
theorem wF_and {f : Nat} {args : List T} {h : AH} {Q R : T → AH → Prop} (hq : wF fs out f args h Q) (hr : wF fs out f args h R) : wF fs out f args h fun r h' => Q r h' ∧ R r h' := by
  obtain ⟨r, h', ⟨k, e⟩, q⟩ := hq
  obtain ⟨r2, h2, ⟨k2, e2⟩, q2⟩ := hr
  have a := acall_up k (max k k2) (by omega) _ _ _ _ e
  have b := acall_up k2 (max k k2) (by omega) _ _ _ _ e2
  rw [a] at b
  simp only [Option.some.injEq, Prod.mk.injEq] at b
  obtain ⟨rfl, rfl⟩ := b
  exact ⟨r, h', ⟨k, e⟩, q, q2⟩
theorem wF_ext {fs' : Nat → Option AFunc} (h1 : ∀ f fn, fs f = some fn → fs' f = some fn) (h2 : ∀ f, fs f = none → fs' f ≠ none → ∀ args h, out f args h = none) {f : Nat} {args : List T} {h : AH} {Q : T → AH → Prop} (hw : wF fs out f args h Q) : wF fs' out f args h Q := by
  obtain ⟨r, h', ⟨k, e⟩, q⟩ := hw
  exact ⟨r, h', ⟨k, acall_ext h1 h2 k _ _ _ _ e⟩, q⟩
theorem wC_mono {c : ACode} {s : St} {Q R : AExit → St → Prop} (hw : wC fs out c s Q) (hQ : ∀ e s', Q e s' → R e s') : wC fs out c s R := by
  obtain ⟨r, h', e, q⟩ := hw
  exact ⟨r, h', e, hQ r h' q⟩
theorem wF_of {k f : Nat} {args : List T} {h : AH} {Q : T → AH → Prop} (hw : wpf (acall fs out k f args h) Q) : wF fs out f args h Q := by
  obtain ⟨r, h', e, q⟩ := hw
  exact ⟨r, h', ⟨k, e⟩, q⟩
theorem opv_nc {r r' : Rec} {j : Nat} {s : St} {op : AOp} (hc : op.cls ≠ .c) : opv r j s op = opv r' j s op := by
  unfold opv
  cases h : op.cls <;> simp_all
theorem wS_run {ops : List AOper} {base : Nat} {Q : St → Prop} : ∀ (π : List Nat) (t : Nat → T) (h : AH), fitsSel ops π = true → wS fs out base (sel ops π) t h Q → ∃ s', (∃ k, runOps (acall fs out k) ops [] base π ⟨t, h⟩ = some s') ∧ Q s'
  | [], t, h, _, hq => ⟨⟨t, h⟩, ⟨0, rfl⟩, hq⟩
  | i :: rest, t, h, hf, hq => by
    simp only [fitsSel, Bool.and_eq_true, decide_eq_true_eq] at hf
    obtain ⟨o, ho⟩ : ∃ o, ops[i]? = some o := ⟨_, List.getElem?_eq_getElem hf.1⟩
    simp only [sel, ho] at hq
    have skip : ∀ t', (({ t := t, h := h } : St).put o.dst (.tup [])) = ⟨t', h⟩ → wS fs out base (sel ops rest) t' h Q → wants t o.guard = some false → ∃ s', (∃ k, runOps (acall fs out k) ops [] base (i :: rest) ⟨t, h⟩ = some s') ∧ Q s' := by
      intro t' ht hq hw
      obtain ⟨s', ⟨k, e⟩, q⟩ := wS_run rest _ _ hf.2 hq
      exact ⟨s', ⟨k, by simp [runOps, ho, ostep, hw, holdsOf, ht, e]⟩, q⟩
    have go : ∀ t' : T → Nat → T, (∀ x h', (({ t := t, h := h' } : St).put o.dst x) = ⟨t' x, h'⟩) → wV fs out (base + i) t h o.op (fun x h' => wS fs out base (sel ops rest) (t' x) h' Q) → wants t o.guard = some true → ∃ s', (∃ k, runOps (acall fs out k) ops [] base (i :: rest) ⟨t, h⟩ = some s') ∧ Q s' := by
      intro t' ht hq hw
      obtain ⟨x, h', ⟨k1, e⟩, q⟩ := hq
      obtain ⟨s', ⟨k2, e'⟩, q'⟩ := wS_run rest _ _ hf.2 q
      have a := opv_up (acall_up k1 (max k1 k2) (by omega)) e
      have b := runOps_up (acall_up k2 (max k1 k2) (by omega)) _ _ _ e'
      exact ⟨s', ⟨max k1 k2, by simp [runOps, ho, ostep, hw, holdsOf, a, ht, b]⟩, q'⟩
    have wn : ∀ d q b, t d = .v (.one (.bool b)) → wants t (some (d, q)) = some (b == q) := fun d q b hb => by simp only [wants, hb]
    have wu : ∀ d q, t d = .tup [] → wants t (some (d, q)) = some false := fun d q hb => by simp only [wants, hb]
    obtain ⟨dst, op, g⟩ := o
    rcases dst with _ | e <;> rcases g with _ | ⟨d, q⟩ <;> simp only [wS] at hq
    · exact go (fun _ => t) (fun _ _ => rfl) hq rfl
    · split at hq
      · rename_i b hb
        split at hq
        · rename_i hbq
          exact go (fun _ => t) (fun _ _ => rfl) hq ((wn d q b hb).trans (by simp [hbq]))
        · rename_i hbq
          exact skip t rfl hq ((wn d q b hb).trans (by simp [hbq]))
      · rename_i hb
        exact skip t rfl hq (wu d q hb)
      · exact hq.elim
    · exact go (fun x => upd t e x) (fun _ _ => rfl) hq rfl
    · split at hq
      · rename_i b hb
        split at hq
        · rename_i hbq
          exact go (fun x => upd t e x) (fun _ _ => rfl) hq ((wn d q b hb).trans (by simp [hbq]))
        · rename_i hbq
          exact skip (upd t e (.tup [])) rfl hq ((wn d q b hb).trans (by simp [hbq]))
      · rename_i hb
        exact skip (upd t e (.tup [])) rfl hq (wu d q hb)
      · exact hq.elim
/-- Operations under one guard. -/
def grp (d : Nat) (q : Bool) (U rest : List (Nat × AOper)) : List (Nat × AOper) := (U.map fun p => (p.1, { p.2 with guard := some (d, q) })) ++ rest
def okG (d : Nat) (U : List (Nat × AOper)) : Bool := U.all fun p => p.2.dst != some d && p.2.guard == none
def skipT : List (Nat × AOper) → (Nat → T) → Nat → T
  | [], t => t
  | (_, ⟨some e, _, _⟩) :: U, t => skipT U (upd t e (.tup []))
  | (_, ⟨none, _, _⟩) :: U, t => skipT U t
theorem wS_grp0 {base d : Nat} {q : Bool} {rest : List (Nat × AOper)} {Q : St → Prop} : ∀ (U : List (Nat × AOper)) (t : Nat → T) (h : AH), okG d U = true →
    (∀ b, t d = .v (.one (.bool b)) → wS fs out base (grp d q U rest) t h Q = if b = q then wS fs out base U t h fun s => wS fs out base rest s.t s.h Q else wS fs out base rest (skipT U t) h Q) ∧
    (t d = .tup [] → wS fs out base (grp d q U rest) t h Q = wS fs out base rest (skipT U t) h Q)
  | [], t, h, _ => ⟨fun b _ => by show wS fs out base rest t h Q = _; split <;> rfl, fun _ => rfl⟩
  | (i, ⟨dst, op, g⟩) :: U, t, h, hU => by
    simp only [okG, List.all_cons, Bool.and_eq_true, bne_iff_ne, ne_eq, beq_iff_eq] at hU
    obtain ⟨⟨hd, rfl⟩, hU⟩ := hU
    have ih := fun t h => wS_grp0 (q := q) (rest := rest) (Q := Q) (base := base) U t h hU
    cases dst with
    | none =>
      refine ⟨fun b hb => ?_, fun hb => ?_⟩
      · show (match t d with
          | .v (.one (.bool b)) => if b = q then wV fs out (base + i) t h op fun _ h' => wS fs out base (grp d q U rest) t h' Q else wS fs out base (grp d q U rest) t h Q
          | .tup [] => wS fs out base (grp d q U rest) t h Q
          | _ => False) = _
        rw [hb]
        show (if b = q then _ else _) = _
        by_cases hq : b = q
        · rw [if_pos hq, if_pos hq]
          show _ = wV fs out (base + i) t h op fun _ h' => _
          congr 1
          funext x h'
          rw [(ih t h').1 b hb, if_pos hq]
        · rw [if_neg hq, if_neg hq, (ih t h).1 b hb, if_neg hq]; rfl
      · show (match t d with
          | .v (.one (.bool b)) => if b = q then wV fs out (base + i) t h op fun _ h' => wS fs out base (grp d q U rest) t h' Q else wS fs out base (grp d q U rest) t h Q
          | .tup [] => wS fs out base (grp d q U rest) t h Q
          | _ => False) = _
        rw [hb]
        exact (ih t h).2 hb
    | some e =>
      have hne : d ≠ e := fun he => hd (by rw [he])
      have hu : ∀ x, upd t e x d = t d := fun x => by simp [upd, hne]
      refine ⟨fun b hb => ?_, fun hb => ?_⟩
      · show (match t d with
          | .v (.one (.bool b)) => if b = q then wV fs out (base + i) t h op fun x h' => wS fs out base (grp d q U rest) (upd t e x) h' Q else wS fs out base (grp d q U rest) (upd t e (.tup [])) h Q
          | .tup [] => wS fs out base (grp d q U rest) (upd t e (.tup [])) h Q
          | _ => False) = _
        rw [hb]
        show (if b = q then _ else _) = _
        by_cases hq : b = q
        · rw [if_pos hq, if_pos hq]
          show _ = wV fs out (base + i) t h op fun x h' => _
          congr 1
          funext x h'
          rw [(ih _ h').1 b ((hu x).trans hb), if_pos hq]
        · rw [if_neg hq, if_neg hq, (ih _ h).1 b ((hu _).trans hb), if_neg hq]; rfl
      · show (match t d with
          | .v (.one (.bool b)) => if b = q then wV fs out (base + i) t h op fun x h' => wS fs out base (grp d q U rest) (upd t e x) h' Q else wS fs out base (grp d q U rest) (upd t e (.tup [])) h Q
          | .tup [] => wS fs out base (grp d q U rest) (upd t e (.tup [])) h Q
          | _ => False) = _
        rw [hb]
        exact (ih _ h).2 ((hu _).trans hb)
theorem upd_self {t : Nat → T} {d : Nat} {x : T} (h : t d = x) : upd t d x = t := by
  funext n; unfold upd; split
  · rename_i e; rw [e, h]
  · rfl
/-- Operations under a guard, as one piece. -/
theorem wS_grp {base d : Nat} {q : Bool} {U rest : List (Nat × AOper)} {t : Nat → T} {h : AH} {Q : St → Prop} (hU : okG d U = true) :
    (match t d with
      | .v (.one (.bool b)) => if b = q then wS fs out base U (upd t d (.v (.one (.bool q)))) h fun s => wS fs out base rest s.t s.h Q else wS fs out base rest (skipT U (upd t d (.v (.one (.bool !q))))) h Q
      | .tup [] => wS fs out base rest (skipT U t) h Q
      | _ => False) → wS fs out base (grp d q U rest) t h Q := by
  intro H
  have g := wS_grp0 (fs := fs) (out := out) (q := q) (rest := rest) (Q := Q) (base := base) U t h hU
  split at H
  · rename_i b hb
    rw [g.1 b hb]
    split at H
    · rename_i hq
      subst hq
      rw [if_pos rfl]
      rwa [upd_self hb] at H
    · rename_i hq
      rw [if_neg hq]
      have : (!q) = b := by cases b <;> cases q <;> simp_all
      rw [this, upd_self hb] at H
      exact H
  · rename_i hb
    rw [g.2 hb]; exact H
  · exact H.elim
theorem wS_grpE {base d : Nat} {q : Bool} {i : Nat} {o : AOper} {U rest : List (Nat × AOper)} {t : Nat → T} {h : AH} {Q : St → Prop} (hU : okG d ((i, o) :: U) = true) :
    wS fs out base (grp d q ((i, o) :: U) rest) t h Q = (match t d with
      | .v (.one (.bool b)) => if b = q then wS fs out base ((i, o) :: U) (upd t d (.v (.one (.bool q)))) h fun s => wS fs out base rest s.t s.h Q else wS fs out base rest (skipT ((i, o) :: U) (upd t d (.v (.one (.bool !q))))) h Q
      | .tup [] => wS fs out base rest (skipT ((i, o) :: U) t) h Q
      | _ => False) := by
  refine propext ⟨fun H => ?_, wS_grp hU⟩
  have g := wS_grp0 (fs := fs) (out := out) (q := q) (rest := rest) (Q := Q) (base := base) _ t h hU
  split
  · rename_i b hb
    rw [g.1 b hb] at H
    split
    · rename_i hq
      subst hq
      rw [if_pos rfl] at H
      rwa [upd_self hb]
    · rename_i hq
      rw [if_neg hq] at H
      have : (!q) = b := by cases b <;> cases q <;> simp_all
      rw [this, upd_self hb]
      exact H
  · rename_i hb
    rw [g.2 hb] at H; exact H
  · rename_i hb1 hb2
    obtain ⟨dst, op, g⟩ := o
    cases dst with
    | none =>
      have H' : (match t d with
          | .v (.one (.bool b)) => if b = q then wV fs out (base + i) t h op fun _ h' => wS fs out base (grp d q U rest) t h' Q else wS fs out base (grp d q U rest) t h Q
          | .tup [] => wS fs out base (grp d q U rest) t h Q
          | _ => False) := H
      split at H'
      · rename_i b hb; exact hb1 b hb
      · rename_i hb; exact hb2 hb
      · exact H'
    | some e =>
      have H' : (match t d with
          | .v (.one (.bool b)) => if b = q then wV fs out (base + i) t h op fun x h' => wS fs out base (grp d q U rest) (upd t e x) h' Q else wS fs out base (grp d q U rest) (upd t e (.tup [])) h Q
          | .tup [] => wS fs out base (grp d q U rest) (upd t e (.tup [])) h Q
          | _ => False) := H
      split at H'
      · rename_i b hb; exact hb1 b hb
      · rename_i hb; exact hb2 hb
      · exact H'
theorem wC_region {ops : List AOper} {π : List Nat} {L : List (Nat × AOper)} (hf : fitsSel ops π = true) (hL : sel ops π = L) {s : St} {Q : AExit → St → Prop}
    (h : wS fs out s.h.nx L s.t { s.h with nx := s.h.nx + ops.length } (Q .normal)) : wC fs out (.region ops π []) s Q := by
  subst hL
  obtain ⟨s', ⟨k, e⟩, q⟩ := wS_run π _ _ hf h
  exact ⟨.normal, s', ⟨k, by simp [exec, e]⟩, q⟩
theorem wV_mono {j : Nat} {t : Nat → T} {h : AH} {op : AOp} {Q R : T → AH → Prop} (hw : wV fs out j t h op Q) (hq : ∀ x h', Q x h' → R x h') : wV fs out j t h op R := by
  obtain ⟨x, h', e, q⟩ := hw
  exact ⟨x, h', e, hq _ _ q⟩
theorem wS_mono {base : Nat} {Q R : St → Prop} : ∀ (L : List (Nat × AOper)) {t : Nat → T} {h : AH}, wS fs out base L t h Q → (∀ s, Q s → R s) → wS fs out base L t h R
  | [], _, _, hw, hq => hq _ hw
  | (i, ⟨dst, op, g⟩) :: L, t, h, hw, hq => by
    rcases dst with _ | e <;> rcases g with _ | ⟨d, q⟩ <;> simp only [wS] at hw ⊢
    · exact wV_mono hw fun x h' hx => wS_mono L hx hq
    · split
      · rename_i b hb
        simp only [hb] at hw
        split
        · rename_i hc
          rw [if_pos hc] at hw
          exact wV_mono hw fun x h' hx => wS_mono L hx hq
        · rename_i hc
          rw [if_neg hc] at hw
          exact wS_mono L hw hq
      · rename_i hb
        simp only [hb] at hw
        exact wS_mono L hw hq
      · rename_i h1 h2
        split at hw
        · rename_i b hb; exact (h1 b hb).elim
        · rename_i hb; exact (h2 hb).elim
        · exact hw
    · exact wV_mono hw fun x h' hx => wS_mono L hx hq
    · split
      · rename_i b hb
        simp only [hb] at hw
        split
        · rename_i hc
          rw [if_pos hc] at hw
          exact wV_mono hw fun x h' hx => wS_mono L hx hq
        · rename_i hc
          rw [if_neg hc] at hw
          exact wS_mono L hw hq
      · rename_i hb
        simp only [hb] at hw
        exact wS_mono L hw hq
      · rename_i h1 h2
        split at hw
        · rename_i b hb; exact (h1 b hb).elim
        · rename_i hb; exact (h2 hb).elim
        · exact hw
theorem runOps_app {rec : Rec} {ops : List AOper} {hs : List (Nat × List Nat)} {base : Nat} : ∀ (π1 π2 : List Nat) (s : St), runOps rec ops hs base (π1 ++ π2) s = (runOps rec ops hs base π1 s).bind fun s1 => runOps rec ops hs base π2 s1
  | [], _, _ => rfl
  | i :: rest, π2, s => by
    simp only [List.cons_append, runOps]
    split
    · rename_i o ho
      cases ostep rec (base + i) o s with
      | none => rfl
      | some s1 =>
        simp only [Option.bind_some]
        split
        · exact runOps_app rest π2 s1
        · rfl
    · rfl
theorem runOps_hold {rec : Rec} {ops : List AOper} {i0 : Nat} {Ls : List Nat} {base : Nat} : ∀ (π : List Nat) (s : St), π.contains i0 = false → runOps rec ops [(i0, Ls)] base π s = runOps rec ops [] base π s
  | [], _, _ => rfl
  | i :: rest, s, h => by
    simp only [List.contains_cons, Bool.or_eq_false_iff, beq_eq_false_iff_ne, ne_eq] at h
    have e : holdsOf [(i0, Ls)] i = [] := by simp [holdsOf, h.1]
    have e' : holdsOf [] i = [] := by simp [holdsOf]
    simp only [runOps, e, e']
    split
    · rename_i o ho
      cases ostep rec (base + i) o s with
      | none => rfl
      | some s1 =>
        simp only [Option.bind_some, List.all_nil, if_true]
        exact runOps_hold rest s1 h.2
    · rfl
/-- A region in which loads came up before operations that write: behind each of these, the loads read the same. -/
def holdsB (ops : List AOper) (s : St) (Ls : List Nat) : Bool := Ls.all fun l => ((ops[l]?).map (holdOk s)).getD false
def wP (fs : Nat → Option AFunc) (out : Rec) (ops : List AOper) (holds : List (Nat × List Nat)) (base : Nat) (π : List Nat) (t : Nat → T) (h : AH) (Q : St → Prop) : Prop :=
  ∃ s', (∃ k, runOps (acall fs out k) ops holds base π ⟨t, h⟩ = some s') ∧ Q s'
theorem runOps_none {rec : Rec} {ops : List AOper} {hs : List (Nat × List Nat)} {base : Nat} : ∀ (π : List Nat) (s : St), (π.all fun i => (holdsOf hs i).isEmpty) = true → runOps rec ops hs base π s = runOps rec ops [] base π s
  | [], _, _ => rfl
  | i :: rest, s, h => by
    simp only [List.all_cons, Bool.and_eq_true, List.isEmpty_iff] at h
    have e' : holdsOf [] i = [] := by simp [holdsOf]
    simp only [runOps, h.1, e']
    split
    · rename_i o ho
      cases ostep rec (base + i) o s with
      | none => rfl
      | some s1 =>
        simp only [Option.bind_some, List.all_nil, if_true]
        exact runOps_none rest s1 h.2
    · rfl
theorem wP_end {ops : List AOper} {hs : List (Nat × List Nat)} {base : Nat} {run : List Nat} {L : List (Nat × AOper)} {t : Nat → T} {h : AH} {Q : St → Prop} (hf : fitsSel ops run = true) (hr : (run.all fun i => (holdsOf hs i).isEmpty) = true)
    (hL : sel ops run = L) (hw : wS fs out base L t h Q) : wP fs out ops hs base run t h Q := by
  subst hL
  obtain ⟨s1, ⟨k, e⟩, q⟩ := wS_run _ _ _ hf hw
  exact ⟨s1, ⟨k, by rw [runOps_none run _ hr]; exact e⟩, q⟩
theorem wP_seg {ops : List AOper} {hs : List (Nat × List Nat)} {base : Nat} {run : List Nat} {i0 : Nat} {rest : List Nat} {L : List (Nat × AOper)} {t : Nat → T} {h : AH} {Q : St → Prop} (hf : fitsSel ops (run ++ [i0]) = true) (hr : (run.all fun i => (holdsOf hs i).isEmpty) = true)
    (hL : sel ops (run ++ [i0]) = L) (hw : wS fs out base L t h fun s1 => holdsB ops s1 (holdsOf hs i0) = true ∧ wP fs out ops hs base rest s1.t s1.h Q) : wP fs out ops hs base (run ++ i0 :: rest) t h Q := by
  subst hL
  obtain ⟨s1, ⟨k1, e1⟩, hh, s2, ⟨k2, e2⟩, q⟩ := wS_run _ _ _ hf hw
  have a := runOps_up (acall_up k1 (max k1 k2) (by omega)) _ _ _ e1
  have b := runOps_up (acall_up k2 (max k1 k2) (by omega)) _ _ _ e2
  refine ⟨s2, ⟨max k1 k2, ?_⟩, q⟩
  rw [runOps_app] at a ⊢
  rw [runOps_none run _ hr]
  cases hp : runOps (acall fs out (max k1 k2)) ops [] base run ⟨t, h⟩ with
  | none => rw [hp] at a; cases a
  | some sp =>
    rw [hp] at a
    simp only [Option.bind_some, runOps] at a ⊢
    split at a
    · rename_i o ho
      obtain ⟨sx, hx, a⟩ := Option.bind_eq_some_iff.1 a
      have e' : holdsOf [] i0 = [] := by simp [holdsOf]
      simp only [e', List.all_nil, if_true, Option.some.injEq] at a
      subst a
      rw [hx]
      simp only [Option.bind_some]
      rw [if_pos (by exact hh)]
      exact b
    · cases a
theorem wC_regionP {ops : List AOper} {π : List Nat} {hs : List (Nat × List Nat)} {s : St} {Q : AExit → St → Prop} (h : wP fs out ops hs s.h.nx π s.t { s.h with nx := s.h.nx + ops.length } (Q .normal)) : wC fs out (.region ops π hs) s Q := by
  obtain ⟨s1, ⟨k, e⟩, q⟩ := h
  exact ⟨.normal, s1, ⟨k, by simp only [exec, e, Option.map_some]⟩, q⟩
theorem wC_seq {a b : ACode} {s : St} {Q : AExit → St → Prop} (h : wC fs out a s fun e s1 => match e with | .normal => wC fs out b s1 Q | e => Q e s1) : wC fs out (.seq a b) s Q := by
  obtain ⟨e, s1, ⟨k1, h1⟩, q⟩ := h
  cases e with
  | normal =>
    obtain ⟨e2, s2, ⟨k2, h2⟩, q⟩ := q
    have a1 := exec_up (acall_up k1 (max k1 k2) (by omega)) (by omega : k1 ≤ max k1 k2) _ _ _ h1
    have a2 := exec_up (acall_up k2 (max k1 k2) (by omega)) (by omega : k2 ≤ max k1 k2) _ _ _ h2
    exact ⟨e2, s2, ⟨max k1 k2, by simp only [exec, a1, Option.bind_some, a2]⟩, q⟩
  | exit id => exact ⟨_, _, ⟨k1, by simp only [exec, h1, Option.bind_some]⟩, q⟩
  | ret => exact ⟨_, _, ⟨k1, by simp only [exec, h1, Option.bind_some]⟩, q⟩
/-- Between two pieces of code: what holds there. -/
theorem wC_cut {a b : ACode} {s : St} {Q : AExit → St → Prop} (K : St → Prop)
    (h1 : ∀ Q1 : AExit → St → Prop, (∀ s1, K s1 → Q1 .normal s1) → (∀ e s1, e ≠ .normal → Q e s1 → Q1 e s1) → wC fs out a s Q1) (h2 : ∀ s1, K s1 → wC fs out b s1 Q) : wC fs out (.seq a b) s Q :=
  wC_seq (wC_mono (h1 (fun e s1 => (e = .normal ∧ K s1) ∨ (e ≠ .normal ∧ Q e s1)) (fun s1 h => .inl ⟨rfl, h⟩) (fun e s1 he h => .inr ⟨he, h⟩)) fun e s1 h => by
    rcases h with ⟨rfl, hk⟩ | ⟨he, hq⟩
    · exact h2 s1 hk
    · cases e with
      | normal => exact absurd rfl he
      | exit id => exact hq
      | ret => exact hq)
theorem wC_cond {c : Opd} {a b : ACode} {keep : List Nat} {s : St} {Q : AExit → St → Prop} {q : Bool} (hc : c.ev s.t = .v (.one (.bool q)))
    (h : if q = true then wC fs out a s (fun e s1 => Q e (keepOnly keep s1)) else wC fs out b s (fun e s1 => Q e (keepOnly keep s1))) : wC fs out (.cond c a b keep) s Q := by
  cases q with
  | true =>
    rw [if_pos rfl] at h
    obtain ⟨e, s1, ⟨k, h1⟩, q⟩ := h
    exact ⟨e, _, ⟨k, by simp only [exec, hc, h1, if_true, Option.map_some]⟩, q⟩
  | false =>
    rw [if_neg (by simp)] at h
    obtain ⟨e, s1, ⟨k, h1⟩, q⟩ := h
    exact ⟨e, _, ⟨k, by simp only [exec, hc, h1, Bool.false_eq_true, if_false, Option.map_some]⟩, q⟩
theorem wC_condM {x : Nat} {a b : ACode} {keep : List Nat} {s : St} {Q : AExit → St → Prop}
    (h : match s.t x with | .v (.one (.bool q)) => if q = true then wC fs out a s (fun e s1 => Q e (keepOnly keep s1)) else wC fs out b s (fun e s1 => Q e (keepOnly keep s1)) | _ => False) : wC fs out (.cond (.t x) a b keep) s Q := by
  split at h
  · rename_i q hq
    exact wC_cond (c := .t x) hq h
  · exact h.elim
theorem wC_block {id : Nat} {a : ACode} {s : St} {Q : AExit → St → Prop} (h : wC fs out a s fun e s1 => Q (if e = .exit id then .normal else e) s1) : wC fs out (.block id a) s Q := by
  obtain ⟨e, s1, ⟨k, h1⟩, q⟩ := h
  exact ⟨_, _, ⟨k, by simp only [exec, h1, Option.map_some]⟩, q⟩
/-- A loop: an invariant that says how many rounds are left at most. -/
theorem wC_loop {keep : List Nat} {a : ACode} {s : St} {Q : AExit → St → Prop} (I : Nat → St → Prop) (n : Nat) (h0 : I n (keepOnly keep s))
    (step : ∀ m s, I m s → wC fs out a s fun e s1 => match e with | .normal => ∃ m', m' < m ∧ I m' (keepOnly keep s1) | e => Q e s1) : wC fs out (.loop keep a) s Q := by
  have key : ∀ (m : Nat) (s : St), I m s → ∃ e s', (∃ k f, rounds (exec (acall fs out k) k a) keep f s = some (e, s')) ∧ Q e s' := by
    intro m
    induction m using Nat.strongRecOn with
    | ind m ih =>
      intro s hi
      obtain ⟨e, s1, ⟨k1, h1⟩, q⟩ := step m s hi
      cases e with
      | normal =>
        obtain ⟨m', hm, hi'⟩ := q
        obtain ⟨e2, s2, ⟨k2, f, h2⟩, q2⟩ := ih m' hm _ hi'
        have a1 := exec_up (acall_up k1 (max k1 k2) (by omega)) (by omega : k1 ≤ max k1 k2) _ _ _ h1
        have a2 := rounds_up (fun s y => exec_up (acall_up k2 (max k1 k2) (by omega)) (by omega : k2 ≤ max k1 k2) _ s y) f f _ _ (Nat.le_refl _) h2
        exact ⟨e2, s2, ⟨max k1 k2, f + 1, by simp only [rounds, a1, Option.bind_some, a2]⟩, q2⟩
      | exit id => exact ⟨_, _, ⟨k1, 1, by simp only [rounds, h1, Option.bind_some]⟩, q⟩
      | ret => exact ⟨_, _, ⟨k1, 1, by simp only [rounds, h1, Option.bind_some]⟩, q⟩
  obtain ⟨e, s', ⟨k, f, h1⟩, q⟩ := key n _ h0
  refine ⟨e, s', ⟨max k f, ?_⟩, q⟩
  simp only [exec]
  exact rounds_up (fun s y => exec_up (acall_up k (max k f) (by omega)) (by omega : k ≤ max k f) _ s y) f (max k f) _ _ (by omega) h1
/-- A loop; what is asked of a round is kept folded. -/
theorem wC_loopQ {keep : List Nat} {a : ACode} {s : St} {Q : AExit → St → Prop} (I : Nat → St → Prop) (n : Nat) (h0 : I n (keepOnly keep s))
    (step : ∀ m s (Q' : AExit → St → Prop), I m s → (∀ m' s1, m' < m → I m' (keepOnly keep s1) → Q' .normal s1) → (∀ i s1, Q (.exit i) s1 → Q' (.exit i) s1) → (∀ s1, Q .ret s1 → Q' .ret s1) → wC fs out a s Q') : wC fs out (.loop keep a) s Q :=
  wC_loop I n h0 fun m s hi => step m s _ hi (fun m' s1 hm h => ⟨m', hm, h⟩) (fun _ _ h => h) (fun _ h => h)
/-- A function called. -/
theorem wF_call {f : Nat} {fn : AFunc} {args : List T} {h : AH} {Q : T → AH → Prop} (hf : fs f = some fn) (hl : args.length = fn.np)
    (hb : wC fs out fn.body { t := tmps0 args, h := h } fun e s => (e = .normal ∨ e = .ret) ∧ ∃ r, resc s fn.cell fn.res = some r ∧ Q r s.h) : wF fs out f args h Q := by
  obtain ⟨e, s, ⟨k, h1⟩, he, r, hr, q⟩ := hb
  exact ⟨r, s.h, ⟨k + 1, by simp only [acall, hf, hl, if_true, h1, Option.bind_some, he, hr, Option.map_some]⟩, q⟩
/-- A function called; what is asked of it is kept folded. -/
theorem wF_fn {f : Nat} {fn : AFunc} {args : List T} {h : AH} {Q : T → AH → Prop} (hf : fs f = some fn) (hl : args.length = fn.np)
    (hb : ∀ Q' : AExit → St → Prop, (∀ e s r, (e = .normal ∨ e = .ret) → resc s fn.cell fn.res = some r → Q r s.h → Q' e s) → wC fs out fn.body { t := tmps0 args, h := h } Q') : wF fs out f args h Q :=
  wF_call hf hl (hb _ fun e s r he hr q => ⟨he, r, hr, q⟩)
theorem wF_out {f : Nat} {args : List T} {h : AH} {Q : T → AH → Prop} (hf : fs f = none) (hw : wpf (out f args h) Q) : wF fs out f args h Q := by
  obtain ⟨r, h', e, q⟩ := hw
  exact ⟨r, h', ⟨1, by simp [acall, hf, e]⟩, q⟩
/-- The heap is told by what is known of it. -/
theorem wC_heap {c : ACode} {s : St} {Q : AExit → St → Prop} (K : AH → Prop) (hp : K s.h) (h : ∀ h', K h' → wC fs out c { s with h := h' } Q) : wC fs out c s Q := h s.h hp
theorem wF_heap {f : Nat} {args : List T} {h : AH} {Q : T → AH → Prop} (K : AH → Prop) (hp : K h) (hw : ∀ h', K h' → wF fs out f args h' Q) : wF fs out f args h Q := hw h hp
/-! One operation, as equations for simp. -/
/-- A mark, so that what stands behind a continuation is left alone by simp. -/
def tag {α : Type} (x : α) : α := x
@[simp] theorem tag_eq {α : Type} (x : α) : tag x = x := by unfold tag; rfl
def onSome2 {α β : Type} (o : Option (α × β)) (Q : α → β → Prop) : Prop := match o with
  | some (a, b) => Q a b
  | none => False
@[simp ↓] theorem onSome2_some {α β : Type} (a : α) (b : β) (Q : α → β → Prop) : onSome2 (some (a, b)) Q = Q a b := rfl
@[simp] theorem onSome2_none {α β : Type} (Q : α → β → Prop) : onSome2 none Q = False := rfl
theorem onSome_two {α β : Type} (o : Option (α × β)) (Q : α → β → Prop) : (onSome o fun p => Q p.1 p.2) = onSome2 o Q := by cases o <;> rfl
@[congr] theorem onSome_congr {α : Type} {o o' : Option α} {Q : α → Prop} (h : Unit → tag o = o') : onSome o Q = onSome o' Q := by have := h (); rw [tag_eq] at this; subst this; rfl
def onG (x : T) (q : Bool) (A B C : Prop) : Prop := match x with
  | .v (.one (.bool b)) => if b = q then A else B
  | .tup [] => C
  | _ => False
def onC (x : T) (A B : Prop) : Prop := match x with
  | .v (.one (.bool b)) => if b = true then A else B
  | _ => False
@[congr] theorem onG_congr {x x' : T} {q : Bool} {A B C : Prop} (h : Unit → tag x = x') : onG x q A B C = onG x' q A B C := by have := h (); rw [tag_eq] at this; subst this; rfl
@[congr] theorem onC_congr {x x' : T} {A B : Prop} (h : Unit → tag x = x') : onC x A B = onC x' A B := by have := h (); rw [tag_eq] at this; subst this; rfl
@[simp ↓] theorem onG_bool (b q : Bool) (A B C : Prop) : onG (.v (.one (.bool b))) q A B C = if b = q then A else B := rfl
@[simp ↓] theorem onG_tup (q : Bool) (A B C : Prop) : onG (.tup []) q A B C = C := rfl
@[simp ↓] theorem onC_bool (b : Bool) (A B : Prop) : onC (.v (.one (.bool b))) A B = if b = true then A else B := rfl
theorem wC_condC {x : Nat} {a b : ACode} {keep : List Nat} {s : St} {Q : AExit → St → Prop}
    (h : onC (s.t x) (wC fs out a s (fun e s1 => Q e (keepOnly keep s1))) (wC fs out b s (fun e s1 => Q e (keepOnly keep s1)))) : wC fs out (.cond (.t x) a b keep) s Q := wC_condM h
@[congr] theorem wV_congr {j : Nat} {t : Nat → T} {h : AH} {op op' : AOp} {Q : T → AH → Prop} (e : Unit → tag op = op') : wV fs out j t h op Q = wV fs out j t h op' Q := by have := e (); rw [tag_eq] at this; subst this; rfl
/-- No temps. -/
def noT : Nat → T := fun _ => .junk
@[congr] theorem onSome2_congr {α β : Type} {o o' : Option (α × β)} {Q : α → β → Prop} (h : Unit → tag o = o') : onSome2 o Q = onSome2 o' Q := by have := h (); rw [tag_eq] at this; subst this; rfl
@[congr] theorem wS_congr {base base' : Nat} {L L' : List (Nat × AOper)} {t t' : Nat → T} {h h' : AH} {Q : St → Prop} (e : Unit → tag base = base') (eL : Unit → tag L = L') (et : Unit → tag t = t') (eh : Unit → tag h = h') : wS fs out base L t h Q = wS fs out base' L' t' h' Q := by have := e (); rw [tag_eq] at this; subst this; have := eL (); rw [tag_eq] at this; subst this; have := et (); rw [tag_eq] at this; subst this; have := eh (); rw [tag_eq] at this; subst this; rfl
@[congr] theorem wC_congr {c : ACode} {s s' : St} {Q : AExit → St → Prop} (h : Unit → tag s = s') : wC fs out c s Q = wC fs out c s' Q := by have := h (); rw [tag_eq] at this; subst this; rfl
@[congr] theorem wF_congr {f : Nat} {args args' : List T} {h h' : AH} {Q : T → AH → Prop} (e : Unit → tag args = args') (e' : Unit → tag h = h') : wF fs out f args h Q = wF fs out f args' h' Q := by have := e (); rw [tag_eq] at this; subst this; have := e' (); rw [tag_eq] at this; subst this; rfl
@[simp ↓] theorem onSome_someD {α : Type} (x : α) (Q : α → Prop) : onSome (some x) Q = Q x := rfl
theorem wV_eq {j : Nat} {t : Nat → T} {h : AH} {op : AOp} {Q : T → AH → Prop} (hc : op.cls ≠ .c) : wV fs out j t h op Q = onSome (opv nothing j ⟨t, h⟩ op) fun p => Q p.1 p.2 := by
  refine propext ⟨?_, ?_⟩
  · rintro ⟨x, h', ⟨k, e⟩, q⟩
    rw [opv_nc hc (r' := nothing)] at e
    rw [e]; exact q
  · intro hq
    cases e : opv nothing j ⟨t, h⟩ op with
    | none => rw [e] at hq; exact hq.elim
    | some p => rw [e] at hq; exact ⟨p.1, p.2, ⟨0, by rw [opv_nc hc (r' := nothing)]; exact e⟩, hq⟩
theorem wV_pv {j : Nat} {t : Nat → T} {h : AH} {op : AOp} {Q : T → AH → Prop} (hc : op.cls = .a) : wV fs out j t h op Q = onSome (pv t op) fun x => Q x h := by
  rw [wV_eq (by rw [hc]; decide)]; simp only [opv, hc, tag_eq]; cases pv t op <;> rfl
theorem wV_lv {j : Nat} {t : Nat → T} {h : AH} {op : AOp} {Q : T → AH → Prop} (hc : op.cls = .l) : wV fs out j t h op Q = onSome (lv t h op) fun x => Q x h := by
  rw [wV_eq (by rw [hc]; decide)]; simp only [opv, hc, tag_eq]; cases lv t h op <;> rfl
theorem wV_nv {j : Nat} {t : Nat → T} {h : AH} {op : AOp} {Q : T → AH → Prop} (hc : op.cls = .n) : wV fs out j t h op Q = onSome (nv t j op) fun p => Q p.1 (h.set j p.2) := by
  rw [wV_eq (by rw [hc]; decide)]; simp only [opv, hc, tag_eq]; cases nv t j op <;> rfl
theorem wV_apv {j : Nat} {t : Nat → T} {h : AH} {op : AOp} {Q : T → AH → Prop} (hc : op.cls = .p) : wV fs out j t h op Q = onSome (apv t h j op) fun p => Q p.1 p.2 := by
  rw [wV_eq (by rw [hc]; decide)]; simp only [opv, hc, tag_eq]
theorem wV_sv {j : Nat} {t : Nat → T} {h : AH} {op : AOp} {Q : T → AH → Prop} (hc : op.cls = .s) : wV fs out j t h op Q = onSome (sv t h op) fun p => Q p.1 p.2 := by
  rw [wV_eq (by rw [hc]; decide)]; simp only [opv, hc, tag_eq]
def evs (t : Nat → T) : List Opd → List T
  | [] => []
  | x :: l => x.ev t :: evs t l
theorem evs_map (t : Nat → T) : ∀ l : List Opd, (l.map fun x => x.ev t) = evs t l
  | [] => rfl
  | x :: l => by rw [List.map_cons, evs_map t l]; rfl
theorem evs_nil (t : Nat → T) : evs t [] = [] := rfl
theorem evs_cons (t : Nat → T) (x : Opd) (l : List Opd) : evs t (x :: l) = x.ev t :: evs t l := rfl
theorem wV_call {j : Nat} {t : Nat → T} {h : AH} {f : Nat} {args : List Opd} {Q : T → AH → Prop} : wV fs out j t h (.call f args) Q = wF fs out f (args.map fun x => x.ev t) h Q := rfl
section
variable {j : Nat} {t : Nat → T} {h : AH} {Q : T → AH → Prop}
theorem v_mov (x : Opd) : wV fs out j t h (.mov x) Q = (onSome (pv t (.mov x)) fun x => Q x h) := wV_pv rfl
theorem v_pick (c : Opd) (a : Opd) (b : Opd) : wV fs out j t h (.pick c a b) Q = (onSome (pv t (.pick c a b)) fun x => Q x h) := wV_pv rfl
theorem v_bin (o : BinOp) (x : Opd) (y : Opd) : wV fs out j t h (.bin o x y) Q = (onSome (pv t (.bin o x y)) fun x => Q x h) := wV_pv rfl
theorem v_eqb (n : Bool) (x : Opd) (y : Opd) : wV fs out j t h (.eqb n x y) Q = (onSome (pv t (.eqb n x y)) fun x => Q x h) := wV_pv rfl
theorem v_eqp (n : Bool) (x : Opd) : wV fs out j t h (.eqp n x) Q = (onSome (pv t (.eqp n x)) fun x => Q x h) := wV_pv rfl
theorem v_eqs (n : Bool) (sh : List Bool) (x : Opd) (y : Opd) : wV fs out j t h (.eqs n sh x y) Q = (onSome (pv t (.eqs n sh x y)) fun x => Q x h) := wV_pv rfl
theorem v_not (x : Opd) : wV fs out j t h (.not x) Q = (onSome (pv t (.not x)) fun x => Q x h) := wV_pv rfl
theorem v_conv (k : IntKind) (x : Opd) : wV fs out j t h (.conv k x) Q = (onSome (pv t (.conv k x)) fun x => Q x h) := wV_pv rfl
theorem v_nilchk (x : Opd) : wV fs out j t h (.nilchk x) Q = (onSome (pv t (.nilchk x)) fun x => Q x h) := wV_pv rfl
theorem v_fadr (o : Nat) (x : Opd) : wV fs out j t h (.fadr o x) Q = (onSome (pv t (.fadr o x)) fun x => Q x h) := wV_pv rfl
theorem v_iadr (e : Nat) (x : Opd) (y : Opd) : wV fs out j t h (.iadr e x y) Q = (onSome (pv t (.iadr e x y)) fun x => Q x h) := wV_pv rfl
theorem v_iadrA (n : Nat) (e : Nat) (x : Opd) (y : Opd) : wV fs out j t h (.iadrA n e x y) Q = (onSome (pv t (.iadrA n e x y)) fun x => Q x h) := wV_pv rfl
theorem v_ext (i : Nat) (x : Opd) : wV fs out j t h (.ext i x) Q = (onSome (pv t (.ext i x)) fun x => Q x h) := wV_pv rfl
theorem v_len (x : Opd) : wV fs out j t h (.len x) Q = (onSome (pv t (.len x)) fun x => Q x h) := wV_pv rfl
theorem v_slc (e : Nat) (x : Opd) (lo : Option Opd) (hi : Option Opd) : wV fs out j t h (.slc e x lo hi) Q = (onSome (pv t (.slc e x lo hi)) fun x => Q x h) := wV_pv rfl
theorem v_build (z : List Cell) (ps : List (Nat × Nat × Opd)) : wV fs out j t h (.build z ps) Q = (onSome (pv t (.build z ps)) fun x => Q x h) := wV_pv rfl
theorem v_max2 (x : Opd) (y : Opd) : wV fs out j t h (.max2 x y) Q = (onSome (pv t (.max2 x y)) fun x => Q x h) := wV_pv rfl
theorem v_load (n : Option Nat) (x : Opd) : wV fs out j t h (.load n x) Q = (onSome (lv t h (.load n x)) fun x => Q x h) := wV_lv rfl
theorem v_look (ky : Key) (z : AV) (ok : Bool) (m : Opd) (x : Opd) : wV fs out j t h (.look ky z ok m x) Q = (onSome (lv t h (.look ky z ok m x)) fun x => Q x h) := wV_lv rfl
theorem v_lenm (x : Opd) : wV fs out j t h (.lenm x) Q = (onSome (lv t h (.lenm x)) fun x => Q x h) := wV_lv rfl
theorem v_new (e : Nat) (cs : List Cell) : wV fs out j t h (.new e cs) Q = (onSome2 (nv t j (.new e cs)) fun x o => Q x (h.set j o)) := (wV_nv rfl).trans (onSome_two _ fun x o => Q x (h.set j o))
theorem v_box (e : Nat) (n : Nat) (x : Opd) : wV fs out j t h (.box e n x) Q = (onSome2 (nv t j (.box e n x)) fun x o => Q x (h.set j o)) := (wV_nv rfl).trans (onSome_two _ fun x o => Q x (h.set j o))
theorem v_mks (e : Nat) (es : Nat) (b : Nat) (z : List Cell) (x : Opd) (y : Opd) : wV fs out j t h (.mks e es b z x y) Q = (onSome2 (nv t j (.mks e es b z x y)) fun x o => Q x (h.set j o)) := (wV_nv rfl).trans (onSome_two _ fun x o => Q x (h.set j o))
theorem v_bsl (e : Nat) (es : Nat) (l : Nat) (z : List Cell) (ps : List (Nat × Nat × Opd)) : wV fs out j t h (.bsl e es l z ps) Q = (onSome2 (nv t j (.bsl e es l z ps)) fun x o => Q x (h.set j o)) := (wV_nv rfl).trans (onSome_two _ fun x o => Q x (h.set j o))
theorem v_mkm (ky : Key) : wV fs out j t h (.mkm ky) Q = (onSome2 (nv t j (.mkm ky)) fun x o => Q x (h.set j o)) := (wV_nv rfl).trans (onSome_two _ fun x o => Q x (h.set j o))
theorem v_store (n : Nat) (x : Opd) (y : Opd) : wV fs out j t h (.store n x y) Q = (onSome2 (sv t h (.store n x y)) Q) := (wV_sv rfl).trans (onSome_two _ Q)
theorem v_mupd (ky : Key) (m : Opd) (x : Opd) (y : Opd) : wV fs out j t h (.mupd ky m x y) Q = (onSome2 (sv t h (.mupd ky m x y)) Q) := (wV_sv rfl).trans (onSome_two _ Q)
theorem v_cpy (e : Nat) (x : Opd) (y : Opd) : wV fs out j t h (.cpy e x y) Q = (onSome2 (sv t h (.cpy e x y)) Q) := (wV_sv rfl).trans (onSome_two _ Q)
theorem v_app (e : Nat) (es : Nat) (b : Nat) (x : Opd) (y : Opd) : wV fs out j t h (.app e es b x y) Q = (onSome2 (apv t h j (.app e es b x y)) Q) := (wV_apv rfl).trans (onSome_two _ Q)
theorem v_call (f : Nat) (l : List Opd) : wV fs out j t h (.call f l) Q = wF fs out f (evs t l) h Q := by rw [wV_call, evs_map]
end
section
variable {base i d : Nat} {dst : Option Nat} {op : AOp} {rest : List (Nat × AOper)} {t : Nat → T} {h : AH} {Q : St → Prop} {q : Bool}
@[simp ↓] theorem wS_nil : wS fs out base [] t h Q = Q ⟨t, h⟩ := rfl
@[simp ↓] theorem wS_none1 {e : Nat} : wS fs out base ((i, ⟨some e, op, none⟩) :: rest) t h Q = wV fs out (base + i) t h op fun x h' => wS fs out base rest (upd t e x) h' Q := rfl
@[simp ↓] theorem wS_none0 : wS fs out base ((i, ⟨none, op, none⟩) :: rest) t h Q = wV fs out (base + i) t h op fun _ h' => wS fs out base rest t h' Q := rfl
@[simp ↓] theorem wS_some1 {e : Nat} : wS fs out base ((i, ⟨some e, op, some (d, q)⟩) :: rest) t h Q = match t d with
      | .v (.one (.bool b)) => if b = q then wV fs out (base + i) t h op fun x h' => wS fs out base rest (upd t e x) h' Q
          else wS fs out base rest (upd t e (.tup [])) h Q
      | .tup [] => wS fs out base rest (upd t e (.tup [])) h Q
      | _ => False := rfl
@[simp ↓] theorem wS_some0 : wS fs out base ((i, ⟨none, op, some (d, q)⟩) :: rest) t h Q = match t d with
      | .v (.one (.bool b)) => if b = q then wV fs out (base + i) t h op fun _ h' => wS fs out base rest t h' Q
          else wS fs out base rest t h Q
      | .tup [] => wS fs out base rest t h Q
      | _ => False := rfl
end
@[simp ↓] theorem wC_ret {s : St} {Q : AExit → St → Prop} : wC fs out .ret s Q = Q .ret s := propext ⟨fun ⟨_, _, ⟨k, e⟩, q⟩ => by simp [exec] at e; obtain ⟨rfl, rfl⟩ := e; exact q, fun h => ⟨_, _, ⟨0, rfl⟩, h⟩⟩
@[simp ↓] theorem wC_skip {s : St} {Q : AExit → St → Prop} : wC fs out .skip s Q = Q .normal s := propext ⟨fun ⟨_, _, ⟨k, e⟩, q⟩ => by simp [exec] at e; obtain ⟨rfl, rfl⟩ := e; exact q, fun h => ⟨_, _, ⟨0, rfl⟩, h⟩⟩
@[simp ↓] theorem wC_exit {id : Nat} {s : St} {Q : AExit → St → Prop} : wC fs out (.exit id) s Q = Q (.exit id) s := propext ⟨fun ⟨_, _, ⟨k, e⟩, q⟩ => by simp [exec] at e; obtain ⟨rfl, rfl⟩ := e; exact q, fun h => ⟨_, _, ⟨0, rfl⟩, h⟩⟩
theorem wC_condT {x : Nat} {a b : ACode} {keep : List Nat} {s : St} {Q : AExit → St → Prop}
    (h : match s.t x with | .v (.one (.bool q)) => if q = true then wC fs out a s (fun e s1 => Q e (keepOnly keep s1)) else wC fs out b s (fun e s1 => Q e (keepOnly keep s1)) | _ => False) : wC fs out (.cond (.t x) a b keep) s Q := wC_condM h
end

end Go.Am
