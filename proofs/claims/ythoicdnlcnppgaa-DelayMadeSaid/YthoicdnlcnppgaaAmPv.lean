/- Operations that do not look at the heap are what the model does. Conditions: as each theorem says. -/
import Derived.Test.YthoicdnlcnppgaaAmOps
set_option linter.unusedVariables false
set_option linter.unusedSimpArgs false
namespace Go.Am
open Go.RowKit
/-! ### What does not look at the heap -/
/-- What an operation yields, whatever the world. -/
def Gives (P : Program) (E : Env) (ρ : Operand → Value) (o : Oper) (x : T) : Prop := ∃ v, (∀ w, (execOp ρ o).run P w = .ok (.value v) w) ∧ trel E x v
section
variable {P : Program} {E : Env} {ρ : Nat → T} {a : Act} {d : Option Tmp} {ty : TypeId} {ps : String} {af : Array Edge} {gd : Option (Nat × Bool)} {x : T} {ao : AOp}
theorem sz_of {P : Program} {t : TypeId} {n : Nat} (h : szP P t = some n) : ∃ i, P.info? t = some i ∧ i.size = n := by
  unfold szP at h
  obtain ⟨i, hi, e⟩ := Option.map_eq_some_iff.1 h
  exact ⟨i, hi, e⟩
theorem run_size {P : Program} {t : TypeId} {n : Nat} (h : szP P t = some n) (w : World) : (sizeOf t).run P w = .ok n w := by
  obtain ⟨i, hi, e⟩ := sz_of h
  simp [sizeOf, typeInfo, hi, e]
theorem run_und {P : Program} {t : TypeId} {u : TypeDesc} (h : P.underlying t = some u) (w : World) : (underlying t).run P w = .ok u w := by
  simp [underlying, h]
theorem g_mov (hT : TRel E ρ a) {y : Operand} {y' : Opd} (hy : opd y = some y') (hx : pv ρ (.mov y') = some x) : Gives P E a.eval ⟨d, .move y, ty, ps, af, gd⟩ x := by
  simp only [pv, Option.some.injEq] at hx
  subst hx
  exact ⟨a.eval y, fun w => by simp [execOp], opd_rel hT hy⟩
theorem g_asg (hT : TRel E ρ a) {y : Operand} {y' : Opd} (hy : opd y = some y') (hx : pv ρ (.mov y') = some x) : Gives P E a.eval ⟨d, .assign y, ty, ps, af, gd⟩ x := by
  simp only [pv, Option.some.injEq] at hx
  subst hx
  exact ⟨a.eval y, fun w => by simp [execOp], opd_rel hT hy⟩
theorem g_pick (hT : TRel E ρ a) {c y z : Operand} {c' y' z' : Opd} (hc : opd c = some c') (hy : opd y = some y') (hz : opd z = some z') (hx : pv ρ (.pick c' y' z') = some x) :
    Gives P E a.eval ⟨d, .pick c y z, ty, ps, af, gd⟩ x := by
  simp only [pv] at hx
  split at hx
  · rename_i q hq
    simp only [Option.some.injEq] at hx
    subst hx
    have e := opd_bool hT hc hq
    refine ⟨if q then a.eval y else a.eval z, fun w => by simp [execOp, e, asBool], ?_⟩
    cases q
    · exact opd_rel hT hz
    · exact opd_rel hT hy
  · cases hx
theorem g_bin (hT : TRel E ρ a) {op : BinOp} {t t' : TypeId} {y z : Operand} {y' z' : Opd} (hy : opd y = some y') (hz : opd z = some z') (hx : pv ρ (.bin op y' z') = some x) :
    Gives P E a.eval ⟨d, .binOp op t y z t', ty, ps, af, gd⟩ x := by
  simp only [pv] at hx
  split at hx
  · rename_i k m k' n hm hn
    have e1 := opd_int hT hy hm
    have e2 := opd_int hT hz hn
    by_cases hk : k = k'
    · subst hk
      rw [if_pos rfl] at hx
      obtain ⟨c, hc, rfl⟩ := Option.map_eq_some_iff.1 hx
      have hg : ∀ w, (eqGuard op t y z (.int k m) (.int k n)).run P w = .ok () w := fun w => by
        unfold eqGuard
        cases op <;> rfl
      have key : ∃ v, (∀ w, (binOp op t (.int k m) (.int k n)).run P w = .ok v w) ∧ crel E c v := by
        cases op <;> simp only [binI, Option.some.injEq] at hc
        case add => subst hc; exact ⟨_, fun w => by simp [binOp, Op.intArith], rfl⟩
        case sub => subst hc; exact ⟨_, fun w => by simp [binOp, Op.intArith], rfl⟩
        case mul => subst hc; exact ⟨_, fun w => by simp [binOp, Op.intArith], rfl⟩
        case quo =>
          by_cases h0 : n = 0
          · rw [if_pos h0] at hc; cases hc
          · rw [if_neg h0] at hc; simp only [Option.some.injEq] at hc; subst hc
            exact ⟨_, fun w => by simp [binOp, Op.intDiv, h0], rfl⟩
        case rem =>
          by_cases h0 : n = 0
          · rw [if_pos h0] at hc; cases hc
          · rw [if_neg h0] at hc; simp only [Option.some.injEq] at hc; subst hc
            exact ⟨_, fun w => by simp [binOp, Op.intDiv, h0], rfl⟩
        case eql => subst hc; exact ⟨_, fun w => by simp [binOp, Op.intCmp], rfl⟩
        case neq => subst hc; exact ⟨_, fun w => by simp [binOp, Op.intCmp], rfl⟩
        case lss => subst hc; exact ⟨_, fun w => by simp [binOp, Op.intCmp], rfl⟩
        case leq => subst hc; exact ⟨_, fun w => by simp [binOp, Op.intCmp], rfl⟩
        case gtr => subst hc; exact ⟨_, fun w => by simp [binOp, Op.intCmp], rfl⟩
        case geq => subst hc; exact ⟨_, fun w => by simp [binOp, Op.intCmp], rfl⟩
        all_goals cases hc
      obtain ⟨v, hv, hr⟩ := key
      exact ⟨v, fun w => by simp [execOp, e1, e2, hg, hv], hr⟩
    · rw [if_neg hk] at hx; cases hx
  · cases hx
theorem run_eqb {t : TypeId} (ht : P.underlying t = some .bool) (p q : Bool) (w : World) : (Op.equal t (.bool p) (.bool q)).run P w = .ok (p == q) w := by
  have key : ∀ n, (Op.equalIn (n + 1) t (.bool p) (.bool q)).run P w = .ok (p == q) w := fun n => by simp [Op.equalIn, run_und ht]
  exact key 9999
theorem g_eqb (hT : TRel E ρ a) {neq : Bool} {t t' : TypeId} {y z : Operand} {y' z' : Opd} (ht : P.underlying t = some .bool) (hy : opd y = some y') (hz : opd z = some z') (hx : pv ρ (.eqb neq y' z') = some x) :
    Gives P E a.eval ⟨d, .binOp (if neq then .neq else .eql) t y z t', ty, ps, af, gd⟩ x := by
  simp only [pv] at hx
  split at hx
  · rename_i p q hp hq
    have e1 := opd_bool hT hy hp
    have e2 := opd_bool hT hz hq
    simp only [Option.some.injEq] at hx
    subst hx
    cases neq with
    | false => exact ⟨.bool (p == q), fun w => by simp [execOp, e1, e2, eqGuard, binOp, run_eqb ht], rfl⟩
    | true => exact ⟨.bool (!(p == q)), fun w => by simp [execOp, e1, e2, eqGuard, binOp, run_eqb ht], rfl⟩
  · cases hx
theorem agg_of {P : Program} {t : TypeId} {b : Bool} (h : aggP P t = some b) (w : World) : (isAgg t).run P w = .ok b w := by
  cases hu : P.underlying t with
  | none => simp [aggP, hu] at h
  | some u => cases u <;> simp [aggP, hu] at h <;> subst h <;> simp [isAgg, run_und hu]
theorem run_part1 {t : TypeId} (ht : aggP P t = some false) {cs : Array Value} {k : Nat} {v : Value} {vs : List Value} (h : cs.toList.drop k = v :: vs) (w : World) : (part t cs k).run P w = .ok v w := by
  have h1 : cs[k]? = some v := by
    have := congrArg List.head? h
    rw [List.head?_drop] at this
    simpa using this
  simp [part, agg_of ht, h1]
theorem drop_tail {α : Type} {l : List α} {k : Nat} {v : α} {vs : List α} (h : l.drop k = v :: vs) : l.drop (k + 1) = vs := by
  rw [← List.drop_drop, h]; rfl
theorem run_eqc {n : Nat} : ∀ (fs : List Field) (k : Nat) (sh : List Bool) (cs ds : List Cell) (xs ys : Array Value) (r : Bool), flatF P k fs = some sh → eqc sh cs ds = some r → lrel (crel E) cs (xs.toList.drop k) → lrel (crel E) ds (ys.toList.drop k) →
    ∀ w, (Op.eqFields (n + 1) xs ys fs).run P w = .ok r w := by
  intro fs
  induction fs with
  | nil =>
    intro k sh cs ds xs ys r hf he _ _ w
    simp only [flatF, Option.some.injEq] at hf
    subst hf
    cases cs <;> cases ds <;> simp [eqc] at he
    subst he
    simp [Op.eqFields]
  | cons f fs ih =>
    intro k sh cs ds xs ys r hf he hc hd w
    simp only [flatF] at hf
    split at hf
    · rename_i hn
      have hn' : f.name ≠ "_" := by simpa using hn.1
      have step : ∀ (b s : Bool) (va vb : Value), aggP P f.type = some false → (∃ vs, xs.toList.drop k = va :: vs) → (∃ vs, ys.toList.drop k = vb :: vs) → (∀ w, (Op.equalIn (n + 1) f.type va vb).run P w = .ok b w) → (∀ w, (Op.eqFields (n + 1) xs ys fs).run P w = .ok s w) →
          (Op.eqFields (n + 1) xs ys (f :: fs)).run P w = .ok (b && s) w := by
        intro b s va vb ha ⟨_, hx⟩ ⟨_, hy⟩ he hr
        simp only [Op.eqFields, if_pos hn', Sem.run_bind, hn.2, run_part1 ha hx, run_part1 ha hy, he, Result.andThen_ok]
        cases b
        · simp
        · simp [hr]
      split at hf
      · rename_i kk ht
        obtain ⟨sh', hf', rfl⟩ := Option.map_eq_some_iff.1 hf
        cases cs with
        | nil => simp [eqc] at he
        | cons c cs =>
          cases ds with
          | nil => cases c <;> simp [eqc] at he
          | cons d ds =>
            obtain ⟨v, vs, e1, h1, h2⟩ := hc.uncons
            obtain ⟨u, us, e2, h3, h4⟩ := hd.uncons
            cases c <;> cases d <;> simp only [eqc, reduceCtorEq] at he
            rename_i k1 a1 k2 b1
            split at he
            case isFalse => cases he
            rename_i hk
            subst hk
            obtain ⟨s, hs, rfl⟩ := Option.map_eq_some_iff.1 he
            have hv : v = .int k1 a1 := h1
            have hu : u = .int k1 b1 := h3
            subst hv hu
            refine step (a1 == b1) s _ _ (by simp [aggP, ht]) ⟨_, e1⟩ ⟨_, e2⟩ (fun w => run_equalIn_int w n f.type k1 kk a1 b1 ht) ?_
            exact ih (k + 1) sh' cs ds xs ys s hf' hs (by rw [drop_tail e1]; exact h2) (by rw [drop_tail e2]; exact h4)
      · rename_i ht
        obtain ⟨sh', hf', rfl⟩ := Option.map_eq_some_iff.1 hf
        cases cs with
        | nil => simp [eqc] at he
        | cons c cs =>
          cases ds with
          | nil => cases c <;> simp [eqc] at he
          | cons d ds =>
            obtain ⟨v, vs, e1, h1, h2⟩ := hc.uncons
            obtain ⟨u, us, e2, h3, h4⟩ := hd.uncons
            cases c <;> cases d <;> simp only [eqc, reduceCtorEq] at he
            rename_i a1 b1
            obtain ⟨s, hs, rfl⟩ := Option.map_eq_some_iff.1 he
            have hv : v = .bool a1 := h1
            have hu : u = .bool b1 := h3
            subst hv hu
            refine step (a1 == b1) s _ _ (by simp [aggP, ht]) ⟨_, e1⟩ ⟨_, e2⟩ (fun w => run_equalIn_bool' w n f.type a1 b1 ht) ?_
            exact ih (k + 1) sh' cs ds xs ys s hf' hs (by rw [drop_tail e1]; exact h2) (by rw [drop_tail e2]; exact h4)
      · cases hf
    · cases hf
theorem g_eqs (hT : TRel E ρ a) {neq : Bool} {t t' : TypeId} {fs : Array Field} {sh : List Bool} {y z : Operand} {y' z' : Opd} (ht : P.underlying t = some (.struct fs)) (h1 : P.stoodInHeld t = false) (h2 : P.eqGuardType P.depth t = false) (hf : flatF P 0 fs.toList = some sh)
    (hy : opd y = some y') (hz : opd z = some z') (hx : pv ρ (.eqs neq sh y' z') = some x) :
    Gives P E a.eval ⟨d, .binOp (if neq then .neq else .eql) t y z t', ty, ps, af, gd⟩ x := by
  simp only [pv] at hx
  split at hx
  · rename_i cs ds hp hq
    obtain ⟨r, hr, rfl⟩ := Option.map_eq_some_iff.1 hx
    have r1 := opd_rel hT hy
    have r2 := opd_rel hT hz
    rw [hp] at r1
    rw [hq] at r2
    obtain ⟨xs, e1, hxs⟩ := r1
    obtain ⟨ys, e2, hys⟩ := r2
    have hfo : P.fieldsOf t = fs := by simp [Program.fieldsOf, ht]
    have he : ∀ w, (Op.equal t (.agg xs) (.agg ys)).run P w = .ok r w := by
      intro w
      have key : ∀ n, (Op.equalIn (n + 2) t (.agg xs) (.agg ys)).run P w = .ok r w := by
        intro n
        rw [run_equalIn_struct (P := P) w (n + 1) t xs ys (by rw [hfo]; exact ht) h1, hfo]
        exact run_eqc fs.toList 0 sh cs ds xs ys r hf hr (by simpa using hxs) (by simpa using hys) w
      exact key 9998
    have hg : ∀ op w, (eqGuard op t y z (.agg xs) (.agg ys)).run P w = .ok () w := fun op w => run_eqGuard_agg w op t y z xs ys h2
    cases neq with
    | false => exact ⟨.bool r, fun w => by simp [execOp, e1, e2, hg, binOp, he], rfl⟩
    | true => exact ⟨.bool (!r), fun w => by simp [execOp, e1, e2, hg, binOp, he], rfl⟩
  · cases hx
theorem run_eqp {t e : TypeId} (ht : P.underlying t = some (.pointer e)) (p : Option Addr) (w : World) : (Op.equal t (.pointer p) (.pointer none)).run P w = .ok p.isNone w := by
  have key : ∀ n, (Op.equalIn (n + 1) t (.pointer p) (.pointer none)).run P w = .ok p.isNone w := fun n => by cases p <;> simp [Op.equalIn, run_und ht]
  exact key 9999
theorem g_eqp (hT : TRel E ρ a) {neq : Bool} {t t' e : TypeId} {y : Operand} {y' : Opd} (ht : P.underlying t = some (.pointer e)) (hy : opd y = some y') (hx : pv ρ (.eqp neq y') = some x) :
    Gives P E a.eval ⟨d, .binOp (if neq then .neq else .eql) t y (.const (.pointer none)) t', ty, ps, af, gd⟩ x := by
  simp only [pv] at hx
  have ec : a.eval (.const (.pointer none)) = .pointer none := rfl
  split at hx
  · rename_i j off hj
    obtain ⟨p, _, e1⟩ := opd_ptr hT hy hj
    simp only [Option.some.injEq] at hx
    subst hx
    cases neq with
    | false => exact ⟨.bool false, fun w => by simp [execOp, e1, ec, eqGuard, binOp, run_eqp ht], rfl⟩
    | true => exact ⟨.bool true, fun w => by simp [execOp, e1, ec, eqGuard, binOp, run_eqp ht], rfl⟩
  · rename_i hj
    have e1 := opd_nilp hT hy hj
    simp only [Option.some.injEq] at hx
    subst hx
    cases neq with
    | false => exact ⟨.bool true, fun w => by simp [execOp, e1, ec, eqGuard, binOp, run_eqp ht], rfl⟩
    | true => exact ⟨.bool false, fun w => by simp [execOp, e1, ec, eqGuard, binOp, run_eqp ht], rfl⟩
  · cases hx
theorem g_not (hT : TRel E ρ a) {t : TypeId} {y : Operand} {y' : Opd} (hy : opd y = some y') (hx : pv ρ (.not y') = some x) : Gives P E a.eval ⟨d, .unOp .not t y, ty, ps, af, gd⟩ x := by
  simp only [pv] at hx
  split at hx
  · rename_i q hq
    simp only [Option.some.injEq] at hx
    subst hx
    have e := opd_bool hT hy hq
    exact ⟨.bool (!q), fun w => by simp [execOp, e, Op.unary], rfl⟩
  · cases hx
theorem g_conv (hT : TRel E ρ a) {src dst : TypeId} {k : IntKind} {u : TypeDesc} {y : Operand} {y' : Opd} (hs : P.underlying src = some u) (ht : P.underlying dst = some (.int k)) (hy : opd y = some y') (hx : pv ρ (.conv k y') = some x) :
    Gives P E a.eval ⟨d, .convert src dst y, ty, ps, af, gd⟩ x := by
  simp only [pv] at hx
  split at hx
  · rename_i k' n hn
    simp only [Option.some.injEq] at hx
    subst hx
    have e := opd_int hT hy hn
    refine ⟨.int k (k.wrap n), fun w => ?_, rfl⟩
    simp only [execOp, e, convert, Sem.run_bind, run_und hs, run_und ht, Result.andThen_ok]
    cases u <;> simp [Conv.intToInt]
  · cases hx
theorem g_nil (hT : TRel E ρ a) {y : Operand} {y' : Opd} (hy : opd y = some y') (hx : pv ρ (.nilchk y') = some x) : Gives P E a.eval ⟨d, .nilCheck y, ty, ps, af, gd⟩ x := by
  simp only [pv] at hx
  split at hx
  · rename_i j off hj
    obtain ⟨p, hp, e⟩ := opd_ptr hT hy hj
    simp only [Option.some.injEq] at hx
    subst hx
    exact ⟨_, fun w => by simp [execOp, e], ⟨p, hp, rfl⟩⟩
  · cases hx
theorem g_fadr (hT : TRel E ρ a) {t : TypeId} {fs : Array Field} {i : Nat} {q : Nat × Nat} {y : Operand} {y' : Opd} (ht : P.underlying t = some (.struct fs)) (hf : fieldP P fs i = some q) (hq : q.2 ≠ 0) (hy : opd y = some y')
    (hx : pv ρ (.fadr q.1 y') = some x) : Gives P E a.eval ⟨d, .fieldAddr t y i, ty, ps, af, gd⟩ x := by
  simp only [pv] at hx
  split at hx
  · rename_i j off hj
    obtain ⟨p, hp, e⟩ := opd_ptr hT hy hj
    simp only [Option.some.injEq] at hx
    subst hx
    unfold fieldP at hf
    obtain ⟨f, hf1, hf2⟩ := Option.bind_eq_some_iff.1 hf
    obtain ⟨n, hn, rfl⟩ := Option.map_eq_some_iff.1 hf2
    refine ⟨.pointer (some ((p.1.add off).add f.offset)), fun w => ?_, ⟨p, hp, by rw [add_add]⟩⟩
    have h0 : n ≠ 0 := hq
    simp [execOp, e, Instr.fieldAt, run_und ht, hf1, Instr.sureAddr, fieldPlace, run_size hn, h0]
  · cases hx
theorem g_iadr (hT : TRel E ρ a) {t e : TypeId} {n : Nat} {y z : Operand} {y' z' : Opd} (ht : P.underlying t = some (.slice e)) (hs : szP P e = some n) (hy : opd y = some y') (hz : opd z = some z') (hx : pv ρ (.iadr n y' z') = some x) :
    Gives P E a.eval ⟨d, .indexAddr t y z, ty, ps, af, gd⟩ x := by
  simp only [pv] at hx
  split at hx
  · rename_i j off m k i hj hi
    have e2 := opd_int hT hz hi
    have e1 := opd_rel hT hy
    rw [hj] at e1
    obtain ⟨p, ad, cap, hp, e1, hle, h0, had⟩ := e1
    by_cases hb : 0 ≤ i ∧ i < m
    · rw [if_pos hb] at hx
      simp only [Option.some.injEq] at hx
      subst hx
      have ha := had (by omega)
      refine ⟨.pointer (some (ad.add (i.toNat * n))), fun w => ?_, ⟨p, hp, by rw [ha, add_add]⟩⟩
      simp [execOp, e1, e2, Instr.indexAt, asIntOf, run_und ht, run_size hs, hb]
    · rw [if_neg hb] at hx; cases hx
  · cases hx
theorem g_iadrA (hT : TRel E ρ a) {t e : TypeId} {n l : Nat} {y z : Operand} {y' z' : Opd} (ht : P.underlying t = some (.array l e)) (hs : szP P e = some n) (hy : opd y = some y') (hz : opd z = some z') (hx : pv ρ (.iadrA l n y' z') = some x) :
    Gives P E a.eval ⟨d, .indexAddr t y z, ty, ps, af, gd⟩ x := by
  simp only [pv] at hx
  split at hx
  · rename_i j off k i hj hi
    have e2 := opd_int hT hz hi
    obtain ⟨p, hp, e1⟩ := opd_ptr hT hy hj
    by_cases hb : 0 ≤ i ∧ i < l
    · rw [if_pos hb] at hx
      simp only [Option.some.injEq] at hx
      subst hx
      refine ⟨.pointer (some ((p.1.add off).add (i.toNat * n))), fun w => ?_, ⟨p, hp, by rw [add_add]⟩⟩
      simp [execOp, e1, e2, Instr.indexAt, asIntOf, run_und ht, run_size hs, hb, Instr.sureAddr]
    · rw [if_neg hb] at hx; cases hx
  · cases hx
theorem g_ext (hT : TRel E ρ a) {i : Nat} {y : Operand} {y' : Opd} (hy : opd y = some y') (hx : pv ρ (.ext i y') = some x) : Gives P E a.eval ⟨d, .extract y i, ty, ps, af, gd⟩ x := by
  simp only [pv] at hx
  split at hx
  · rename_i xs hxs
    have e := opd_rel hT hy
    rw [hxs] at e
    obtain ⟨vs, e, hl⟩ := e
    obtain ⟨c, hc, rfl⟩ := Option.map_eq_some_iff.1 hx
    obtain ⟨v, hv, hr⟩ := hl.get hc
    rw [Array.getElem?_toList] at hv
    exact ⟨v, fun w => by simp [execOp, e, Instr.extract, hv], hr⟩
  · cases hx
theorem g_max (hT : TRel E ρ a) {c : Call} (hc : c.callee = .builtin .max) {y z : Operand} {y' z' : Opd} (hl : c.args.toList = [y, z]) (hy : opd y = some y') (hz : opd z = some z') (hx : pv ρ (.max2 y' z') = some x) :
    Gives P E a.eval ⟨d, .call c, ty, ps, af, gd⟩ x := by
  simp only [pv] at hx
  split at hx
  · rename_i k m k' n hm hn
    have e1 := opd_int hT hy hm
    have e2 := opd_int hT hz hn
    simp only [Option.some.injEq] at hx
    subst hx
    have hargs : c.args = #[y, z] := by rw [← Array.toList_inj, hl]
    exact ⟨.int k (if n > m then n else m), fun w => by simp [execOp, resolve, hc, hargs, invoke, builtin, Builtin.max_, Builtin.max2, e1, e2], rfl⟩
  · cases hx
theorem g_len (hT : TRel E ρ a) {c : Call} (hc : c.callee = .builtin .len) {y : Operand} {y' : Opd} {t e : TypeId} (hl : c.args.toList = [y]) (ht : c.argTypes.toList = [t]) (hu : P.underlying t = some (.slice e)) (hy : opd y = some y') (hx : pv ρ (.len y') = some x) :
    Gives P E a.eval ⟨d, .call c, ty, ps, af, gd⟩ x := by
  simp only [pv] at hx
  have hargs : c.args = #[y] := by rw [← Array.toList_inj, hl]
  have htys : c.argTypes = #[t] := by rw [← Array.toList_inj, ht]
  split at hx
  · rename_i j off n hj
    have e1 := opd_rel hT hy
    rw [hj] at e1
    obtain ⟨p, ad, cap, hp, e1, _⟩ := e1
    simp only [Option.some.injEq] at hx
    subst hx
    exact ⟨.int .i64 n, fun w => by simp [execOp, resolve, hc, hargs, htys, invoke, builtin, Builtin.len_, e1, run_und hu, goInt], rfl⟩
  · rename_i hj
    have e1 := opd_nils hT hy hj
    simp only [Option.some.injEq] at hx
    subst hx
    exact ⟨.int .i64 0, fun w => by simp [execOp, resolve, hc, hargs, htys, invoke, builtin, Builtin.len_, e1, run_und hu, goInt], rfl⟩
  · cases hx
theorem bnd_rel (hT : TRel E ρ a) {dflt : Nat} {o : Option Operand} {o' : Option Opd} (ho : opdo o = some o') {l : Int} (hl : bnd ρ dflt o' = some l) :
    (o = none ∧ l = dflt) ∨ ∃ y k, o = some y ∧ a.eval y = .int k l := by
  cases o with
  | none => simp [opdo] at ho; subst ho; simp [bnd] at hl; exact .inl ⟨rfl, hl.symm⟩
  | some y =>
    simp only [opdo, Option.map_eq_some_iff] at ho
    obtain ⟨y', hy, rfl⟩ := ho
    simp only [bnd] at hl
    split at hl
    · rename_i k n hn
      simp only [Option.some.injEq] at hl
      subst hl
      exact .inr ⟨y, k, rfl, opd_int hT hy hn⟩
    · cases hl
theorem run_bound (k : IntKind) (i : Int) (y : Nat) (code : BoundsCode) (h0 : 0 ≤ i) (h1 : i ≤ y) (w : World) : (Instr.sliceBound (.int k i) y code).run P w = .ok i.toNat w := by
  simp [Instr.sliceBound, asIntOf, h0, h1]
theorem run_bounds (hT : TRel E ρ a) {lo hi : Option Operand} {lo' hi' : Option Opd} (hlo : opdo lo = some lo') (hhi : opdo hi = some hi') {n cap : Nat} (hnc : n ≤ cap) {l h : Int} (hl : bnd ρ 0 lo' = some l) (hh : bnd ρ n hi' = some h)
    (b0 : 0 ≤ l) (b1 : l ≤ h) (b2 : h ≤ n) (isSlice : Bool) (w : World) : (Instr.sliceBounds isSlice n cap (lo.map a.eval) (hi.map a.eval) none).run P w = .ok (l.toNat, h.toNat, cap) w := by
  have e2 : ∀ code, (match hi.map a.eval with | some v => Instr.sliceBound v cap code | none => pure n : Sem Nat).run P w = .ok h.toNat w := fun code => by
    rcases bnd_rel hT hhi hh with ⟨rfl, rfl⟩ | ⟨y, k, rfl, e⟩
    · simp
    · simp only [Option.map_some, e]; exact run_bound k h cap code (by omega) (by omega) w
  have e1 : ∀ code, (match lo.map a.eval with | some v => Instr.sliceBound v h.toNat code | none => pure 0 : Sem Nat).run P w = .ok l.toNat w := fun code => by
    rcases bnd_rel hT hlo hl with ⟨rfl, rfl⟩ | ⟨y, k, rfl, e⟩
    · simp
    · simp only [Option.map_some, e]; exact run_bound k l h.toNat code (by omega) (by omega) w
  unfold Instr.sliceBounds
  rcases bnd_rel hT hhi hh with ⟨rfl, rfl⟩ | ⟨y, k, rfl, e⟩
  · rcases bnd_rel hT hlo hl with ⟨rfl, rfl⟩ | ⟨y, k, rfl, e⟩
    · simp
    · have := run_bound (P := P) k l n .sliceB (by omega) (by omega) w
      simp [e, this]
  · have r2 := fun code => run_bound (P := P) k h cap code (by omega) (by omega) w
    rcases bnd_rel hT hlo hl with ⟨rfl, rfl⟩ | ⟨y2, k2, rfl, e2⟩
    · simp [e, r2]
    · have := run_bound (P := P) k2 l h.toNat .sliceB (by omega) (by omega) w
      simp [e, e2, r2, this]
theorem g_slc (hT : TRel E ρ a) {t e : TypeId} {n : Nat} {y : Operand} {y' : Opd} {lo hi : Option Operand} {lo' hi' : Option Opd} (ht : P.underlying t = some (.slice e)) (hs : szP P e = some n) (hn : 0 < n) (hy : opd y = some y')
    (hlo : opdo lo = some lo') (hhi : opdo hi = some hi') (hx : pv ρ (.slc n y' lo' hi') = some x) : Gives P E a.eval ⟨d, .slice t y lo hi none, ty, ps, af, gd⟩ x := by
  simp only [pv] at hx
  split at hx
  · rename_i j off m hj
    have e1 := opd_rel hT hy
    rw [hj] at e1
    obtain ⟨p, ad, cap, hp, e1, hle, h0, had⟩ := e1
    obtain ⟨l, hl, hx⟩ := Option.bind_eq_some_iff.1 hx
    obtain ⟨h, hh, hx⟩ := Option.bind_eq_some_iff.1 hx
    by_cases hb : 0 ≤ l ∧ l ≤ h ∧ h ≤ m
    · rw [if_pos hb] at hx
      simp only [Option.some.injEq] at hx
      subst hx
      have hrun := fun w => run_bounds (P := P) hT hlo hhi hle hl hh hb.1 hb.2.1 hb.2.2 true w
      refine ⟨.slice (if cap = l.toNat then some ad else some (ad.add (l.toNat * n))) (h.toNat - l.toNat) (cap - l.toNat), fun w => ?_, ?_⟩
      · simp [execOp, e1, Instr.sliceAt, Instr.slice, run_und ht, hrun, run_size hs]
      · by_cases hc : cap = l.toNat
        · rw [if_pos hc]
          refine ⟨p, ad, _, hp, rfl, by omega, fun h00 => ?_, fun hpos => by omega⟩
          have hl0 : l.toNat * n = 0 := by omega
          have hl1 : l.toNat = 0 := by
            rcases Nat.mul_eq_zero.1 hl0 with h1 | h1
            · exact h1
            · omega
          have := h0 (by omega)
          exact ⟨this.1, fun c hc' => by have := this.2 c hc'; omega⟩
        · rw [if_neg hc]
          refine ⟨p, ad.add (l.toNat * n), _, hp, rfl, by omega, fun h00 => ?_, fun hpos => ?_⟩
          · have hl0 : l.toNat * n = 0 := by omega
            have hl1 : l.toNat = 0 := by
              rcases Nat.mul_eq_zero.1 hl0 with h1 | h1
              · exact h1
              · omega
            have := h0 (by omega)
            refine ⟨by rw [hl0, this.1]; unfold Addr.add; simp, fun c hc' => by have := this.2 c hc'; omega⟩
          · rw [had (by omega), add_add]
    · rw [if_neg hb] at hx; cases hx
  · rename_i hj
    have e1 := opd_nils hT hy hj
    obtain ⟨l, hl, hx⟩ := Option.bind_eq_some_iff.1 hx
    obtain ⟨h, hh, hx⟩ := Option.bind_eq_some_iff.1 hx
    by_cases hb : l = 0 ∧ h = 0
    · rw [if_pos hb] at hx
      simp only [Option.some.injEq] at hx
      subst hx
      obtain ⟨rfl, rfl⟩ := hb
      have hrun := fun w => run_bounds (P := P) (n := 0) (cap := 0) hT hlo hhi (Nat.le_refl 0) hl hh (by omega) (by omega) (by omega) true w
      refine ⟨.slice none 0 0, fun w => ?_, rfl⟩
      simp [execOp, e1, Instr.sliceAt, Instr.slice, run_und ht, hrun, run_size hs]
    · rw [if_neg hb] at hx; cases hx
  · cases hx
theorem g_slcA (hT : TRel E ρ a) {t e : TypeId} {n l0 : Nat} {y : Operand} {y' : Opd} {lo hi : Option Operand} {lo' hi' : Option Opd} (ht : P.underlying t = some (.array l0 e)) (hs : szP P e = some n) (hn : 0 < l0) (hy : opd y = some y')
    (hlo : opdo lo = some lo') (hhi : opdo hi = some hi') (hcap : ∀ j p, y'.ev ρ = .v (.one (.ptr j 0)) → E j = some p → p.2 = none) (hx : pv ρ (.slcA l0 n y' lo' hi') = some x) : Gives P E a.eval ⟨d, .slice t y lo hi none, ty, ps, af, gd⟩ x := by
  simp only [pv] at hx
  split at hx
  · rename_i j off hj
    obtain ⟨p, hp, e1⟩ := opd_ptr hT hy hj
    obtain ⟨l, hl, hx⟩ := Option.bind_eq_some_iff.1 hx
    obtain ⟨h, hh, hx⟩ := Option.bind_eq_some_iff.1 hx
    by_cases hb : l = 0 ∧ h = l0 ∧ off = 0
    · rw [if_pos hb] at hx
      simp only [Option.some.injEq] at hx
      subst hx
      obtain ⟨rfl, rfl, rfl⟩ := hb
      have hrun := fun w => run_bounds (P := P) (n := l0) (cap := l0) hT hlo hhi (Nat.le_refl _) hl hh (by omega) (by omega) (by omega) false w
      refine ⟨.slice (some (p.1.add 0)) l0 l0, fun w => ?_, ?_⟩
      · have h2 : l0 ≠ 0 := by omega
        have h3 : ∀ ad : Addr, ad.add 0 = ad := fun ad => by unfold Addr.add; simp
        simp [execOp, e1, Instr.sliceAt, run_und ht, hrun, run_size hs, Instr.sureAddr, h2, h3]
      · have h3 : ∀ ad : Addr, ad.add 0 = ad := fun ad => by unfold Addr.add; simp
        refine ⟨p, p.1.add 0, l0, hp, rfl, Nat.le_refl _, fun _ => ⟨h3 _, fun c hc => ?_⟩, fun _ => rfl⟩
        have := hcap j p hj hp
        rw [this] at hc; cases hc
    · rw [if_neg hb] at hx; cases hx
  · cases hx
end

end Go.Am
