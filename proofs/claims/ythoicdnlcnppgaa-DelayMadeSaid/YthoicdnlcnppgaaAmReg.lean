/- A region in whatever order, and code, and calls. Conditions: as each theorem says. -/
import Derived.Test.YthoicdnlcnppgaaAmOrd
set_option linter.unusedVariables false
set_option linter.unusedSimpArgs false
namespace Go.Am
open Go.RowKit
/-! ### One operation of the model -/
def dstOk (N : Nat) : Option Tmp → Bool
  | some d => decide (d < N)
  | none => true
def resolveOper (P : Program) (N : Nat) (ops : Array Oper) (o : Oper) : Option AOper :=
  if dstOk N o.dst = true then
    (resolveOp P o.op).bind fun op => match o.guard with
      | none => some ⟨o.dst, op, none⟩
      | some (j, q) => ((ops[j]?).bind (·.dst)).map fun d => ⟨o.dst, op, some (d, q)⟩
  else none
structure SRel (N base : Nat) (w0 : World) (E : Env) (s : St) (a : Act) (w : World) : Prop where
  heap : HRel base w0 E s.h w
  tmps : TRel E s.t a
  size : a.tmps.size = N
  defers : a.defers = []
/-- The calls are what the model does. -/
structure RecOk (P : Program) (rec : Rec) : Prop where
  fresh : RecFresh rec
  enters : ∀ f args h x, rec f args h = some x → ∀ (vs : Array Value) w, (callFunc f vs).run P w = .ok (.enter f vs) w
  calls : ∀ f args h r h', rec f args h = some (r, h') → ∀ base w0 E w (vs : Array Value), HRel base w0 E h w → lrel (trel E) args vs.toList →
    Calls P f vs w fun e w' => ∃ v E', e = .returned v ∧ E.le E' ∧ (∀ i, i < h.nx → E' i = E i) ∧ HRel base w0 E' h' w' ∧ trel E' r v
section
variable {P : Program} {N base : Nat} {w0 : World} {E : Env}
theorem TRel.put {ρ : Nat → T} {a : Act} (hT : TRel E ρ a) {E' : Env} (hE : E.le E') {d : Option Tmp} (hd : ∀ k, d = some k → k < a.tmps.size) {x : T} {v : Value} (hr : trel E' x v) (h : AH) :
    TRel E' ((({ t := ρ, h := h } : St).put d x).t) (a.put d v) := by
  intro n
  cases d with
  | none => exact (hT n).mono hE
  | some k =>
    have hk := hd k rfl
    simp only [St.put, Act.put]
    by_cases hn : n = k
    · subst hn
      rw [upd_same]
      have : (a.tmps.setIfInBounds n v).getD n undef = v := by simp [hk]
      rw [this]; exact hr
    · rw [upd_ne _ _ hn]
      have : (a.tmps.setIfInBounds k v).getD n undef = a.tmps.getD n undef := by
        simp [Array.getElem?_setIfInBounds_ne (Ne.symm hn)]
      rw [this]; exact (hT n).mono hE
theorem SRel.put {s : St} {a : Act} {w w' : World} (S : SRel N base w0 E s a w) {E' : Env} (hE : E.le E') {d : Option Tmp} (hd : ∀ k, d = some k → k < N) {x : T} {v : Value} (hr : trel E' x v) {h' : AH} (hH : HRel base w0 E' h' w') :
    SRel N base w0 E' (({ s with h := h' } : St).put d x) (a.put d v) w' := by
  refine ⟨by rw [put_h]; exact hH, ?_, ?_, ?_⟩
  · have := TRel.put S.tmps hE (d := d) (by rw [S.size]; exact hd) hr h'
    exact this
  · cases d with
    | none => exact S.size
    | some k => simp [Act.put]; exact S.size
  · cases d <;> exact S.defers
/-- The guard is told. -/
theorem wants_rel {s : St} {a : Act} {ops : Array Oper} (hT : TRel E s.t a) {o : Oper} {g : Option (Nat × Bool)} (hg : match o.guard with | none => g = none | some (j, q) => ∃ d, (ops[j]?).bind (·.dst) = some d ∧ g = some (d, q)) {b : Bool} (hw : wants s.t g = some b) :
    Region.wanted o (yielded ops a.tmps) = b := by
  unfold Region.wanted
  cases hog : o.guard with
  | none =>
    rw [hog] at hg
    simp only [] at hg
    subst hg
    simp only [wants, Option.some.injEq] at hw
    exact hw
  | some jq =>
    obtain ⟨j, q⟩ := jq
    rw [hog] at hg
    obtain ⟨d, hd, rfl⟩ := hg
    simp only [wants] at hw
    simp only [yielded, hd, Option.bind_some]
    have ht := hT d
    split at hw
    · rename_i c hc
      rw [hc] at ht
      have ht : a.tmps.getD d undef = .bool c := ht
      simp only [Option.some.injEq] at hw
      have : a.tmps[d]? = some (.bool c) := by
        rw [Array.getD_eq_getD_getElem?] at ht
        cases hx : a.tmps[d]? with
        | none => rw [hx] at ht; simp [undef] at ht
        | some y => rw [hx] at ht; simp at ht; rw [ht]
      rw [this]
      simp only []
      rw [← hw]
      cases c <;> cases q <;> rfl
    · rename_i hc
      rw [hc] at ht
      obtain ⟨vs, ht, hl⟩ := ht
      simp only [Option.some.injEq] at hw
      subst hw
      cases hx : a.tmps[d]? with
      | none => cases q <;> rfl
      | some y =>
        rw [Array.getD_eq_getD_getElem?, hx] at ht
        simp at ht
        subst ht
        cases q <;> rfl
    · cases hw
theorem opds_rel {ρ : Nat → T} {a : Act} (hT : TRel E ρ a) : ∀ (xs : List Operand) (ys : List Opd), opds xs = some ys → lrel (trel E) (ys.map fun y => y.ev ρ) (xs.map a.eval)
  | [], ys, h => by simp only [opds, Option.some.injEq] at h; subst h; exact lrel.nil
  | x :: xs, ys, h => by
    simp only [opds] at h
    obtain ⟨y, hy, h⟩ := Option.bind_eq_some_iff.1 h
    obtain ⟨ys', hys, rfl⟩ := Option.map_eq_some_iff.1 h
    exact lrel.cons (opd_rel hT hy) (opds_rel hT xs ys' hys)
/-- What a step that is carried out leaves, as the model has it. -/
def Sim (P : Program) (N base : Nat) (w0 : World) (E : Env) (s : St) (a : Act) (w : World) (o : Oper) (j : Nat) (x : T) (h' : AH) : Prop :=
  ∀ (K : Act → World → Prop) (Q : Exit → Act → World → Prop), (∀ v E' w', E.le E' → (∀ i, i < s.h.nx → i ≠ j → E' i = E i) → trel E' x v → HRel base w0 E' h' w' → K (a.put o.dst v) w') → o.wp P a w K Q
theorem sim_gives {s : St} {a : Act} {w : World} {o : Oper} {j : Nat} {x : T} (S : SRel N base w0 E s a w) (hg : Gives P E a.eval o x) : Sim P N base w0 E s a w o j x s.h := by
  obtain ⟨v, hv, hr⟩ := hg
  intro K Q hK
  unfold Oper.wp
  rw [hv w]
  exact hK v E w (Env.le_refl E) (fun _ _ _ => rfl) hr S.heap
theorem sim_l {s : St} {a : Act} {w : World} {o : Oper} {j : Nat} {x : T} (S : SRel N base w0 E s a w) (hg : ∃ v, (execOp a.eval o).run P w = .ok (.value v) w ∧ trel E x v) : Sim P N base w0 E s a w o j x s.h := by
  obtain ⟨v, hv, hr⟩ := hg
  intro K Q hK
  unfold Oper.wp
  rw [hv]
  exact hK v E w (Env.le_refl E) (fun _ _ _ => rfl) hr S.heap
theorem sim_lays {s : St} {a : Act} {w : World} {o : Oper} {j : Nat} {x : T} {h' : AH} (hg : Lays P base w0 E a.eval o w j x h') : Sim P N base w0 E s a w o j x h' := by
  obtain ⟨v, w', E', hv, h1, h2, h3, h4⟩ := hg
  intro K Q hK
  unfold Oper.wp
  rw [hv]
  exact hK v E' w' h1 (fun i _ hi => h2 i hi) h4 h3
theorem sim_writes {s : St} {a : Act} {w : World} {o : Oper} {j : Nat} {x : T} {h' : AH} (hg : Writes P base w0 E a.eval o w x h') : Sim P N base w0 E s a w o j x h' := by
  obtain ⟨w', hv, hH⟩ := hg
  intro K Q hK
  unfold Oper.wp
  rcases hv with ⟨hv, hr⟩ | ⟨v, hv, hr⟩
  · rw [hv]
    exact hK undef E w' (Env.le_refl E) (fun _ _ _ => rfl) hr hH
  · rw [hv]
    exact hK v E w' (Env.le_refl E) (fun _ _ _ => rfl) hr hH
theorem op_sim {rec : Rec} (hrec : RecOk P rec) {s : St} {a : Act} {w : World} {j : Nat} {x : T} {h' : AH} (S : SRel N base w0 E s a w) (hj : E j = none) (hlt : j < s.h.nx)
    {d : Option Tmp} {op : Op} {ty : TypeId} {ps : String} {af : Array Edge} {gd : Option (Nat × Bool)} {ao : AOp} (hr : resolveOp P op = some ao) (hv : opv rec j s ao = some (x, h')) : Sim P N base w0 E s a w ⟨d, op, ty, ps, af, gd⟩ j x h' := by
  have hT := S.tmps
  have H := S.heap
  -- by the kind of what it resolves to
  have gives : ao.cls = .a → (∀ y, pv s.t ao = some y → Gives P E a.eval ⟨d, op, ty, ps, af, gd⟩ y) → Sim P N base w0 E s a w ⟨d, op, ty, ps, af, gd⟩ j x h' := by
    intro hc hg
    simp only [opv, hc] at hv
    obtain ⟨y, hy, he⟩ := Option.map_eq_some_iff.1 hv
    simp only [Prod.mk.injEq] at he
    obtain ⟨rfl, rfl⟩ := he
    exact sim_gives S (hg y hy)
  have loads : ao.cls = .l → (∀ y, lv s.t s.h ao = some y → ∃ v, (execOp a.eval ⟨d, op, ty, ps, af, gd⟩).run P w = .ok (.value v) w ∧ trel E y v) → Sim P N base w0 E s a w ⟨d, op, ty, ps, af, gd⟩ j x h' := by
    intro hc hg
    simp only [opv, hc] at hv
    obtain ⟨y, hy, he⟩ := Option.map_eq_some_iff.1 hv
    simp only [Prod.mk.injEq] at he
    obtain ⟨rfl, rfl⟩ := he
    exact sim_l S (hg y hy)
  have news : ao.cls = .n → (∀ y ob, nv s.t j ao = some (y, ob) → Lays P base w0 E a.eval ⟨d, op, ty, ps, af, gd⟩ w j y (s.h.set j ob)) → Sim P N base w0 E s a w ⟨d, op, ty, ps, af, gd⟩ j x h' := by
    intro hc hg
    simp only [opv, hc] at hv
    obtain ⟨⟨y, ob⟩, hy, he⟩ := Option.map_eq_some_iff.1 hv
    simp only [Prod.mk.injEq] at he
    obtain ⟨rfl, rfl⟩ := he
    exact sim_lays (hg y ob hy)
  cases op <;> simp only [resolveOp] at hr <;> try (cases hr; done)
  case move y =>
    obtain ⟨y', hy, rfl⟩ := Option.map_eq_some_iff.1 hr
    exact gives rfl fun _ => g_mov hT hy
  case assign y =>
    obtain ⟨y', hy, rfl⟩ := Option.map_eq_some_iff.1 hr
    exact gives rfl fun _ => g_asg hT hy
  case pick c y z =>
    obtain ⟨c', hc, hr⟩ := Option.bind_eq_some_iff.1 hr
    obtain ⟨y', hy, hr⟩ := Option.bind_eq_some_iff.1 hr
    obtain ⟨z', hz, rfl⟩ := Option.map_eq_some_iff.1 hr
    exact gives rfl fun _ => g_pick hT hc hy hz
  case binOp bop t y z t' =>
    obtain ⟨y', hy, hr⟩ := Option.bind_eq_some_iff.1 hr
    split at hr
    · obtain ⟨z', hz, rfl⟩ := Option.map_eq_some_iff.1 hr
      exact gives rfl fun _ => g_bin hT hy hz
    · rename_i ht
      obtain ⟨z', hz, hr⟩ := Option.bind_eq_some_iff.1 hr
      split at hr
      · simp only [Option.some.injEq] at hr; subst hr
        exact gives rfl fun _ => g_eqb (neq := false) hT ht hy hz
      · simp only [Option.some.injEq] at hr; subst hr
        exact gives rfl fun _ => g_eqb (neq := true) hT ht hy hz
      · cases hr
    · rename_i ht
      split at hr
      · simp only [Option.some.injEq] at hr; subst hr
        exact gives rfl fun _ => g_eqp (neq := false) hT ht hy
      · simp only [Option.some.injEq] at hr; subst hr
        exact gives rfl fun _ => g_eqp (neq := true) hT ht hy
      · cases hr
    · rename_i fs ht
      split at hr
      · rename_i hc
        obtain ⟨sh, hsh, hr⟩ := Option.bind_eq_some_iff.1 hr
        obtain ⟨z', hz, hr⟩ := Option.bind_eq_some_iff.1 hr
        split at hr
        · simp only [Option.some.injEq] at hr; subst hr
          exact gives rfl fun _ => g_eqs (neq := false) hT ht hc.1 hc.2 hsh hy hz
        · simp only [Option.some.injEq] at hr; subst hr
          exact gives rfl fun _ => g_eqs (neq := true) hT ht hc.1 hc.2 hsh hy hz
        · cases hr
      · cases hr
    · cases hr
  case unOp uop t y =>
    split at hr
    · obtain ⟨y', hy, rfl⟩ := Option.map_eq_some_iff.1 hr
      exact gives rfl fun _ => g_not hT hy
    · cases hr
  case convert src dst y =>
    obtain ⟨u, hu, hr⟩ := Option.bind_eq_some_iff.1 hr
    split at hr
    · rename_i ht
      obtain ⟨y', hy, rfl⟩ := Option.map_eq_some_iff.1 hr
      exact gives rfl fun _ => g_conv hT hu ht hy
    · cases hr
  case nilCheck y =>
    obtain ⟨y', hy, rfl⟩ := Option.map_eq_some_iff.1 hr
    exact gives rfl fun _ => g_nil hT hy
  case fieldAddr t y f =>
    split at hr
    · rename_i ht
      obtain ⟨q, hq, hr⟩ := Option.bind_eq_some_iff.1 hr
      split at hr
      · cases hr
      · rename_i h0
        obtain ⟨y', hy, rfl⟩ := Option.map_eq_some_iff.1 hr
        exact gives rfl fun _ => g_fadr hT ht hq h0 hy
    · cases hr
  case indexAddr t y z =>
    split at hr
    · rename_i ht
      obtain ⟨n, hn, hr⟩ := Option.bind_eq_some_iff.1 hr
      obtain ⟨y', hy, hr⟩ := Option.bind_eq_some_iff.1 hr
      obtain ⟨z', hz, rfl⟩ := Option.map_eq_some_iff.1 hr
      exact gives rfl fun _ => g_iadr hT ht hn hy hz
    · rename_i ht
      obtain ⟨n, hn, hr⟩ := Option.bind_eq_some_iff.1 hr
      obtain ⟨y', hy, hr⟩ := Option.bind_eq_some_iff.1 hr
      obtain ⟨z', hz, rfl⟩ := Option.map_eq_some_iff.1 hr
      exact gives rfl fun _ => g_iadrA hT ht hn hy hz
    · cases hr
  case extract y i =>
    obtain ⟨y', hy, rfl⟩ := Option.map_eq_some_iff.1 hr
    exact gives rfl fun _ => g_ext hT hy
  case slice t y lo hi mx =>
    split at hr
    · cases hr
    · split at hr
      · rename_i ht
        obtain ⟨n, hn, hr⟩ := Option.bind_eq_some_iff.1 hr
        split at hr
        · rename_i h0
          obtain ⟨y', hy, hr⟩ := Option.bind_eq_some_iff.1 hr
          obtain ⟨lo', hlo, hr⟩ := Option.bind_eq_some_iff.1 hr
          obtain ⟨hi', hhi, rfl⟩ := Option.map_eq_some_iff.1 hr
          exact gives rfl fun _ => g_slc hT ht hn h0 hy hlo hhi
        · cases hr
      · cases hr
  case build t parts =>
    split at hr
    · rename_i ht
      obtain ⟨z, hz, hr⟩ := Option.bind_eq_some_iff.1 hr
      obtain ⟨ps', hps, hr⟩ := Option.bind_eq_some_iff.1 hr
      split at hr
      · rename_i hfs
        simp only [Option.some.injEq] at hr; subst hr
        exact gives rfl fun _ => g_build_str hT ht hfs hz hps
      · cases hr
    · rename_i ht
      obtain ⟨z, hz, hr⟩ := Option.bind_eq_some_iff.1 hr
      obtain ⟨n, hn, hr⟩ := Option.bind_eq_some_iff.1 hr
      obtain ⟨ps', hps, rfl⟩ := Option.map_eq_some_iff.1 hr
      exact gives rfl fun _ => g_build_arr hT ht hn hz hps
    · cases hr
  case load t y =>
    obtain ⟨n, hn, hr⟩ := Option.bind_eq_some_iff.1 hr
    obtain ⟨y', hy, rfl⟩ := Option.map_eq_some_iff.1 hr
    exact loads rfl fun _ => l_load H hT hn hy
  case lookup t m k ok =>
    split at hr
    · rename_i ht
      obtain ⟨ky, hky, hr⟩ := Option.bind_eq_some_iff.1 hr
      obtain ⟨z, hz, hr⟩ := Option.bind_eq_some_iff.1 hr
      obtain ⟨m', hm, hr⟩ := Option.bind_eq_some_iff.1 hr
      obtain ⟨k', hk, rfl⟩ := Option.map_eq_some_iff.1 hr
      exact loads rfl fun _ => l_look H hT ht hky hz hm hk
    · cases hr
  case alloc t =>
    obtain ⟨z, hz, rfl⟩ := Option.map_eq_some_iff.1 hr
    exact news rfl fun _ _ => n_new H hj hlt hz
  case box t y =>
    obtain ⟨n, hn, hr⟩ := Option.bind_eq_some_iff.1 hr
    obtain ⟨y', hy, rfl⟩ := Option.map_eq_some_iff.1 hr
    exact news rfl fun _ _ => n_box H hT hj hlt hy
  case makeSlice t l c =>
    split at hr
    · rename_i ht
      obtain ⟨i, hi, hr⟩ := Option.bind_eq_some_iff.1 hr
      obtain ⟨z, hz, hr⟩ := Option.bind_eq_some_iff.1 hr
      split at hr
      · rename_i h0
        obtain ⟨l', hl, hr⟩ := Option.bind_eq_some_iff.1 hr
        obtain ⟨c', hc, rfl⟩ := Option.map_eq_some_iff.1 hr
        exact news rfl fun _ _ => n_mks H hT hj hlt ht hi hz h0.1 h0.2 hl hc
      · cases hr
    · cases hr
  case buildSlice t len parts =>
    split at hr
    · rename_i ht
      obtain ⟨n, hn, hr⟩ := Option.bind_eq_some_iff.1 hr
      obtain ⟨z, hz, hr⟩ := Option.bind_eq_some_iff.1 hr
      obtain ⟨ps', hps, hr⟩ := Option.bind_eq_some_iff.1 hr
      split at hr
      · rename_i h0
        simp only [Option.some.injEq] at hr; subst hr
        exact news rfl fun _ _ => n_bsl H hT hj hlt ht hn hz h0.1 h0.2.1 h0.2.2 hps
      · cases hr
    · cases hr
  case makeMap t r =>
    split at hr
    · obtain ⟨ky, hky, rfl⟩ := Option.map_eq_some_iff.1 hr
      exact news rfl fun _ _ => n_mkm H hj hlt
    · cases hr
  case store t y z =>
    obtain ⟨n, hn, hr⟩ := Option.bind_eq_some_iff.1 hr
    obtain ⟨y', hy, hr⟩ := Option.bind_eq_some_iff.1 hr
    obtain ⟨z', hz, rfl⟩ := Option.map_eq_some_iff.1 hr
    exact sim_writes (s_store H hT hn hy hz (by simpa only [opv, AOp.cls] using hv))
  case mapUpdate t m k v =>
    split at hr
    · rename_i ht
      obtain ⟨ky, hky, hr⟩ := Option.bind_eq_some_iff.1 hr
      obtain ⟨m', hm, hr⟩ := Option.bind_eq_some_iff.1 hr
      obtain ⟨k', hk, hr⟩ := Option.bind_eq_some_iff.1 hr
      obtain ⟨v', hv', rfl⟩ := Option.map_eq_some_iff.1 hr
      exact sim_writes (s_mupd H hT ht hky hm hk hv' (by simpa only [opv, AOp.cls] using hv))
    · cases hr
  case call c =>
    split at hr
    · -- a function
      rename_i f hf
      obtain ⟨args', hargs, rfl⟩ := Option.map_eq_some_iff.1 hr
      simp only [opv, AOp.cls] at hv
      have hrel := opds_rel hT c.args.toList args' hargs
      intro K Q hK
      have hc := hrec.calls _ _ _ _ _ hv base w0 E w (c.args.map a.eval) H (by rw [Array.toList_map]; exact hrel)
      have hcf := hrec.enters _ _ _ _ hv (c.args.map a.eval) w
      have hexec : (execOp a.eval ⟨d, .call c, ty, ps, af, gd⟩).run P w = .ok (.enter f (c.args.map a.eval)) w := by
        have ef : a.eval (.func f) = .func (.func f) #[] #[] := rfl
        simp [execOp, resolve, hf, ef, Deferred.ofValue, invoke, hcf]
      unfold Oper.wp
      rw [hexec]
      refine Calls.mono hc ?_
      rintro e w' ⟨v, E', rfl, h1, h2, h3, h4⟩
      exact hK v E' w' h1 (fun i hi _ => h2 i hi) h4 h3
    · -- len
      rename_i hf
      split at hr
      · rename_i y t hl ht
        split at hr
        · rename_i hu
          obtain ⟨y', hy, rfl⟩ := Option.map_eq_some_iff.1 hr
          exact gives rfl fun _ => g_len hT hf hl ht hu hy
        · rename_i hu
          obtain ⟨y', hy, rfl⟩ := Option.map_eq_some_iff.1 hr
          exact loads rfl fun _ => l_lenm H hT hf hl ht hu hy
        · cases hr
      · cases hr
    · rename_i hf
      split at hr
      · rename_i y z hl
        obtain ⟨y', hy, hr⟩ := Option.bind_eq_some_iff.1 hr
        obtain ⟨z', hz, rfl⟩ := Option.map_eq_some_iff.1 hr
        exact gives rfl fun _ => g_max hT hf hl hy hz
      · cases hr
    · rename_i hf
      split at hr
      · rename_i y z t t' hl ht
        split at hr
        · rename_i htt
          subst htt
          split at hr
          · rename_i hu
            obtain ⟨i, hi, hr⟩ := Option.bind_eq_some_iff.1 hr
            obtain ⟨zz, hzz, hr⟩ := Option.bind_eq_some_iff.1 hr
            split at hr
            · rename_i h0
              obtain ⟨y', hy, hr⟩ := Option.bind_eq_some_iff.1 hr
              obtain ⟨z', hz, rfl⟩ := Option.map_eq_some_iff.1 hr
              exact sim_lays (apd H hT hf hl ht hu hi hzz h0.1 h0.2 hy hz hj hlt (by simpa only [opv, AOp.cls] using hv))
            · cases hr
          · cases hr
        · cases hr
      · cases hr
    · rename_i hf
      split at hr
      · rename_i y z t t' hl ht
        split at hr
        · rename_i hu
          obtain ⟨n, hn, hr⟩ := Option.bind_eq_some_iff.1 hr
          split at hr
          · rename_i h0
            obtain ⟨y', hy, hr⟩ := Option.bind_eq_some_iff.1 hr
            obtain ⟨z', hz, rfl⟩ := Option.map_eq_some_iff.1 hr
            exact sim_writes (s_cpy H hT hf hl ht hu hn h0 hy hz (by simpa only [opv, AOp.cls] using hv))
          · cases hr
        · cases hr
      · cases hr
    · cases hr
/-- A step of the abstract machine, as the model has it, whether its guard lets it come or not. -/
theorem step_sim {rec : Rec} (hrec : RecOk P rec) {ops : Array Oper} {s s1 : St} {a : Act} {w : World} {j : Nat} (S : SRel N base w0 E s a w) (hj : E j = none) (hlt : j < s.h.nx)
    {o : Oper} {ao : AOper} (hr : resolveOper P N ops o = some ao) (hs : ostep rec j ao s = some s1) (K : Act → World → Prop) (Q : Exit → Act → World → Prop)
    (hK : ∀ E' a' w', E.le E' → (∀ i, i < s.h.nx → i ≠ j → E' i = E i) → SRel N base w0 E' s1 a' w' → K a' w') :
    if Region.wanted o (yielded ops a.tmps) = true then o.wp P a w K Q else K (a.put o.dst undef) w := by
  unfold resolveOper at hr
  split at hr
  · rename_i hdN
    obtain ⟨op', hop, hr⟩ := Option.bind_eq_some_iff.1 hr
    have hd : ∀ k, o.dst = some k → k < N := by
      intro k hk
      rw [hk] at hdN
      exact of_decide_eq_true (p := k < N) hdN
    have hao : ao.dst = o.dst ∧ ao.op = op' ∧ (match o.guard with | none => ao.guard = none | some (j, q) => ∃ d, (ops[j]?).bind (·.dst) = some d ∧ ao.guard = some (d, q)) := by
      split at hr
      · rename_i hg
        simp only [Option.some.injEq] at hr; subst hr
        exact ⟨rfl, rfl, rfl⟩
      · rename_i j' q hg
        obtain ⟨d, hd, rfl⟩ := Option.map_eq_some_iff.1 hr
        exact ⟨rfl, rfl, d, hd, rfl⟩
    obtain ⟨e1, e2, e3⟩ := hao
    unfold ostep at hs
    split at hs
    · rename_i hw
      have := wants_rel S.tmps e3 hw
      rw [if_pos this]
      obtain ⟨⟨x, h'⟩, hx, rfl⟩ := Option.map_eq_some_iff.1 hs
      rw [e2] at hx
      have hsim := op_sim (d := o.dst) (ty := o.type) (ps := o.pos) (af := o.after) (gd := o.guard) hrec S hj hlt hop hx
      refine hsim K Q fun v E' w' h1 h2 h3 h4 => ?_
      rw [e1] at hK
      exact hK E' _ w' h1 h2 (S.put h1 hd h3 h4)
    · rename_i hw
      have := wants_rel S.tmps e3 hw
      rw [if_neg (by rw [this]; simp)]
      simp only [Option.some.injEq] at hs
      subst hs
      rw [e1] at hK
      refine hK E _ w (Env.le_refl E) (fun _ _ _ => rfl) ?_
      have := S.put (h' := s.h) (w' := w) (Env.le_refl E) hd (x := .tup []) (v := undef) ⟨#[], rfl, lrel.nil⟩ S.heap
      exact this
    · cases hs
  · cases hr
end

end Go.Am
