/- Operations that look at, lay and write the heap are what the model does. Conditions: as each theorem says. -/
import Derived.Test.YthoicdnlcnppgaaAmPv
set_option linter.unusedVariables false
set_option linter.unusedSimpArgs false
namespace Go.Am
open Go.RowKit
/-! ### What looks at the heap -/
section
variable {P : Program} {E : Env} {ρ : Nat → T} {a : Act} {d : Option Tmp} {ty : TypeId} {ps : String} {af : Array Edge} {gd : Option (Nat × Bool)} {x : T} {base : Nat} {w0 w : World} {h : AH}
theorem addr0 (b i : Nat) : (⟨b, 0, none⟩ : Addr).add i = ⟨b, i, none⟩ := by unfold Addr.add; split <;> simp_all
/-- A cell of an object. -/
theorem HRel.cell (H : HRel base w0 E h w) {j f : Nat} {ro : Bool} {e s : Nat} {cs : List Cell} (ho : h.o j = some (.cells f ro e s cs)) {p : Addr × Option Nat} (hp : E j = some p) {i : Nat} {c : Cell} (hc : cs[i]? = some c) :
    ∃ v, w.cell? (p.1.add i) = some v ∧ crel E c v := by
  have h0 := H.obj j _ ho
  cases ro with
  | true =>
    obtain ⟨q, hq, _, hcell⟩ := h0
    rw [hp] at hq; cases hq
    exact hcell i c hc
  | false =>
    obtain ⟨q, b, cur, hq, e, _, hh, hcell, _⟩ := h0
    rw [hp] at hq; cases hq
    obtain ⟨v, hv, hr⟩ := hcell i c hc
    refine ⟨v, ?_, hr⟩
    rw [e, addr0]
    simp [World.cell?, hh, hv]
/-- Cells of an object, as the model's. -/
theorem HRel.cells (H : HRel base w0 E h w) {j off n : Nat} {l : List Cell} (hr : rdCells h j off n = some l) {p : Addr × Option Nat} (hp : E j = some p) :
    ∃ vs : List Value, lrel (crel E) l vs ∧ ∀ (i : Nat) v, vs[i]? = some v → w.cell? ((p.1.add off).add i) = some v := by
  unfold rdCells at hr
  split at hr
  · rename_i f ro e s cs ho
    by_cases hle : off + n ≤ cs.length
    · rw [if_pos hle] at hr
      simp only [Option.some.injEq] at hr
      have key : ∀ (l : List Cell) (k : Nat), (∀ (i : Nat) c, l[i]? = some c → cs[k + i]? = some c) → ∃ vs : List Value, lrel (crel E) l vs ∧ ∀ (i : Nat) v, vs[i]? = some v → w.cell? (p.1.add (k + i)) = some v := by
        intro l
        induction l with
        | nil => intro k _; exact ⟨[], lrel.nil, fun i v hv => by simp at hv⟩
        | cons c l ih =>
          intro k hk
          obtain ⟨v, hv, hc⟩ := H.cell ho hp (hk 0 c rfl)
          obtain ⟨vs, h1, h2⟩ := ih (k + 1) (fun i c hi => by have := hk (i + 1) c (by simpa using hi); rw [show k + 1 + i = k + (i + 1) by omega]; exact this)
          refine ⟨v :: vs, lrel.cons hc h1, fun i u hu => ?_⟩
          match i with
          | 0 => simp at hu; subst hu; exact hv
          | i + 1 => have := h2 i u (by simpa using hu); rw [show k + (i + 1) = k + 1 + i by omega]; exact this
      obtain ⟨vs, h1, h2⟩ := key l off (fun i c hi => by
        rw [← hr, List.getElem?_take] at hi
        by_cases hin : i < n
        · rw [if_pos hin, List.getElem?_drop] at hi; exact hi
        · rw [if_neg hin] at hi; cases hi)
      exact ⟨vs, h1, fun i v hv => by rw [add_add]; exact h2 i v hv⟩
    · rw [if_neg hle] at hr; cases hr
  · cases hr
theorem rdCells_len {h : AH} {j off n : Nat} {l : List Cell} (hr : rdCells h j off n = some l) : l.length = n := by
  unfold rdCells at hr
  split at hr
  · split at hr
    · simp only [Option.some.injEq] at hr
      subst hr
      simp; omega
    · cases hr
  · cases hr
/-- A load. -/
theorem run_ld (H : HRel base w0 E h w) {t : TypeId} {n : Option Nat} (hn : widthP P t = some n) {j off : Nat} {x : AV} (hx : ldv h n j off = some x) {p : Addr × Option Nat} (hp : E j = some p) :
    ∃ v, (loadVar t (p.1.add off)).run P w = .ok v w ∧ avrel E x v := by
  unfold widthP at hn
  obtain ⟨b, hb, hn⟩ := Option.bind_eq_some_iff.1 hn
  have hagg := fun w => agg_of hb w
  cases b with
  | true =>
    simp only [if_true] at hn
    obtain ⟨m, hm, rfl⟩ := Option.map_eq_some_iff.1 hn
    unfold ldv at hx
    obtain ⟨l, hl, rfl⟩ := Option.map_eq_some_iff.1 hx
    obtain ⟨vs, h1, h2⟩ := H.cells hl hp
    have hlen : vs.length = m := by rw [← h1.1]; exact rdCells_len hl
    have hr := run_loadCells_list (P := P) w (p.1.add off) vs h2
    rw [hlen] at hr
    exact ⟨.agg vs.toArray, by simp [loadVar, hagg, run_size hm, hr], ⟨vs.toArray, rfl, by simpa using h1⟩⟩
  | false =>
    simp only [Bool.false_eq_true, if_false, Option.some.injEq] at hn
    subst hn
    unfold ldv at hx
    obtain ⟨l, hl, hx⟩ := Option.bind_eq_some_iff.1 hx
    obtain ⟨vs, h1, h2⟩ := H.cells hl hp
    split at hx
    · rename_i c
      simp only [Option.some.injEq] at hx
      subst hx
      obtain ⟨v, ys, rfl, hc, hy⟩ := h1.uncons
      have := h2 0 v rfl
      have e0 : (p.1.add off).add 0 = p.1.add off := by unfold Addr.add; simp
      rw [e0] at this
      exact ⟨v, by simp [loadVar, hagg, this], hc⟩
    · cases hx
theorem l_load (H : HRel base w0 E h w) (hT : TRel E ρ a) {t : TypeId} {n : Option Nat} (hn : widthP P t = some n) {y : Operand} {y' : Opd} (hy : opd y = some y') (hx : lv ρ h (.load n y') = some x) :
    ∃ v, (execOp a.eval ⟨d, .load t y, ty, ps, af, gd⟩).run P w = .ok (.value v) w ∧ trel E x v := by
  simp only [lv] at hx
  split at hx
  · rename_i j off hj
    obtain ⟨p, hp, e⟩ := opd_ptr hT hy hj
    obtain ⟨q, hq, rfl⟩ := Option.map_eq_some_iff.1 hx
    obtain ⟨v, hv, hr⟩ := run_ld (P := P) H hn hq hp
    exact ⟨v, by simp [execOp, e, Instr.loadAt, Instr.sureAddr, hv], hr⟩
  · cases hx
/-! ### Maps with whole numbers as keys -/
theorem key_of {P : Program} {t : TypeId} {ky : Key} (h : keyP P t = some ky) : ∃ k, ky = .int k ∧ P.underlying t = some (.int k) := by
  unfold keyP at h
  split at h
  · rename_i k hk; simp only [Option.some.injEq] at h; exact ⟨k, h.symm, hk⟩
  · cases h
theorem fits_int {k : IntKind} {x : AV} (h : (Key.int k).fits x = true) : ∃ n, x = .one (.int k n) := by
  cases x with
  | agg cs => simp [Key.fits] at h
  | one c =>
    cases c <;> simp [Key.fits] at h
    subst h
    exact ⟨_, rfl⟩
theorem isKey_of {k : IntKind} {x : AV} (h : (Key.int k).fits x = true) {v : Value} (hr : avrel E x v) : MapKept.IsKey (.int k) v ∧ ∃ n, x = .one (.int k n) ∧ v = .int k n := by
  obtain ⟨n, rfl⟩ := fits_int h
  have : v = .int k n := hr
  subst this
  exact ⟨by simp [MapKept.IsKey], n, rfl, rfl⟩
/-- Where an entry lies. -/
theorem find_rel {k : IntKind} {kvs : List (AV × AV)} {es : List MapEntry} (hl : lrel (fun (q : AV × AV) (e : MapEntry) => (Key.int k).fits q.1 = true ∧ avrel E q.1 e.key ∧ avrel E q.2 e.val) kvs es) {n : Int} :
    (mfind kvs (.one (.int k n)) = none ∧ ∀ x ∈ es, x.key ≠ .int k n) ∨ ∃ (j : Nat) (q : AV × AV) (e : MapEntry), mfind kvs (.one (.int k n)) = some q.2 ∧ kvs[j]? = some q ∧ es[j]? = some e ∧ e.key = .int k n ∧ q.1 = .one (.int k n) ∧ (∀ i, i < j → ∀ r, kvs[i]? = some r → r.1 ≠ .one (.int k n)) := by
  induction kvs generalizing es with
  | nil =>
    have : es = [] := List.eq_nil_of_length_eq_zero hl.1.symm
    subst this
    exact .inl ⟨rfl, by simp⟩
  | cons q kvs ih =>
    obtain ⟨e, es', rfl, hq, hl'⟩ := hl.uncons
    obtain ⟨_, m, hm, hv⟩ := isKey_of hq.1 hq.2.1
    by_cases hmn : m = n
    · subst hmn
      exact .inr ⟨0, q, e, by simp [mfind, hm], rfl, rfl, hv, hm, fun i hi => by omega⟩
    · have hne : q.1 ≠ .one (.int k n) := by rw [hm]; intro h; cases h; exact hmn rfl
      have hfind : mfind (q :: kvs) (.one (.int k n)) = mfind kvs (.one (.int k n)) := by simp [mfind, hne]
      rcases ih hl' with ⟨h1, h2⟩ | ⟨j, r, e', h1, h2, h3, h4, h5, h6⟩
      · refine .inl ⟨by rw [hfind]; exact h1, fun x hx => ?_⟩
        cases hx with
        | head => rw [hv]; intro h; cases h; exact hmn rfl
        | tail _ hx => exact h2 x hx
      · exact .inr ⟨j + 1, r, e', by rw [hfind]; exact h1, by simpa using h2, by simpa using h3, h4, h5, fun i hi r' hr' => by
          match i with
          | 0 => simp at hr'; subst hr'; exact hne
          | i + 1 => exact h6 i (by omega) r' (by simpa using hr')⟩
theorem zeroAV_rel {P : Program} {t : TypeId} {z : AV} (h : zeroAV P t = some z) : ∃ v, (∀ w, (zeroValue t).run P w = .ok v w) ∧ avrel E z v := by
  unfold zeroAV at h
  obtain ⟨i, hi, h⟩ := Option.bind_eq_some_iff.1 h
  obtain ⟨v, hv, h⟩ := Option.bind_eq_some_iff.1 h
  refine ⟨v, fun w => by simp [zeroValue, typeInfo, hi, hv], ?_⟩
  split at h
  · rename_i cs
    obtain ⟨l, hl, rfl⟩ := Option.map_eq_some_iff.1 h
    unfold solidCells at hl
    split at hl
    · simp only [Option.some.injEq] at hl
      subst hl
      refine ⟨cs, rfl, ⟨by simp [Value.cells], fun i x y hx hy => ?_⟩⟩
      simp only [List.getElem?_map, Value.cells, hy, Option.map_some, Option.some.injEq] at hx
      subst hx
      exact cellOf_rel E y
    · cases hl
  · cases h
  · split at h
    · cases h
    · simp only [Option.some.injEq] at h
      subst h
      exact cellOf_rel E v
theorem keys_of {k : IntKind} {kvs : List (AV × AV)} {es : List MapEntry} (hl : lrel (fun (q : AV × AV) (e : MapEntry) => (Key.int k).fits q.1 = true ∧ avrel E q.1 e.key ∧ avrel E q.2 e.val) kvs es) : ∀ x ∈ es, MapKept.IsKey (.int k) x.key := by
  intro x hx
  obtain ⟨i, hi⟩ := List.getElem?_of_mem hx
  have hlt : i < kvs.length := by rw [hl.1]; exact (List.getElem?_eq_some_iff.1 hi).1
  have := hl.2 i kvs[i] x (List.getElem?_eq_getElem hlt) hi
  exact (isKey_of this.1 this.2.1).1
theorem findNow_first {k : IntKind} {n : Int} : ∀ (es : List MapEntry) (b j : Nat) (e : MapEntry), (∀ x ∈ es, MapKept.IsKey (.int k) x.key) → es[j]? = some e → e.key = .int k n → (∀ i, i < j → ∀ r : MapEntry, es[i]? = some r → r.key ≠ .int k n) →
    Instr.findNow (.int k) (.int k n) es b = some (some (b + j, e.val))
  | [], b, j, e, _, h, _, _ => by simp at h
  | x :: es, b, 0, e, hk, h, he, _ => by
    simp at h
    subst h
    simp [Instr.findNow, he, Instr.sameNow]
  | x :: es, b, j + 1, e, hk, h, he, hf => by
    have hx := hk x (.head _)
    have hne := hf 0 (by omega) x rfl
    cases hxk : x.key <;> rw [hxk] at hx hne <;> simp only [MapKept.IsKey] at hx
    rename_i k' m
    subst hx
    have hmn : (n == m) = false := by
      rw [beq_eq_false_iff_ne]
      exact fun q => hne (by rw [q])
    have := findNow_first es (b + 1) j e (fun y hy => hk y (.tail _ hy)) (by simpa using h) he (fun i hi r hr => hf (i + 1) (by omega) r (by simpa using hr))
    simp [Instr.findNow, hxk, Instr.sameNow, hmn, this]
    omega
theorem l_look (H : HRel base w0 E h w) (hT : TRel E ρ a) {t kt et : TypeId} {ky : Key} {z : AV} {ok : Bool} (ht : P.underlying t = some (.map kt et)) (hk : keyP P kt = some ky) (hz : zeroAV P et = some z) {m k : Operand} {m' k' : Opd}
    (hm' : opd m = some m') (hk' : opd k = some k') (hx : lv ρ h (.look ky z ok m' k') = some x) :
    ∃ v, (execOp a.eval ⟨d, .lookup t m k ok, ty, ps, af, gd⟩).run P w = .ok (.value v) w ∧ trel E x v := by
  obtain ⟨kd, rfl, hu⟩ := key_of hk
  obtain ⟨zv, hzv, hzr⟩ := zeroAV_rel (E := E) hz
  simp only [lv] at hx
  split at hx
  · rename_i j key hj hkey
    have em := opd_rel hT hm'
    rw [hj] at em
    obtain ⟨p, hp, em⟩ := em
    have ek := opd_rel hT hk'
    rw [hkey] at ek
    split at hx
    · rename_i ky' kvs ho
      by_cases hc : ky' = .int kd ∧ (Key.int kd).fits key = true
      · rw [if_pos hc] at hx
        obtain ⟨rfl, hf⟩ := hc
        obtain ⟨hik, n, rfl, hv⟩ := isKey_of hf ek
        obtain ⟨q, b, es, clk, hq, e, _, hh, hl⟩ := H.obj j _ ho
        rw [hp] at hq; cases hq
        have eb : p.1.block = b := by rw [e]
        have hgo := MapKept.run_getObj_map (P := P) hh
        have hik' : MapKept.IsKey (.int kd) (.int kd n) := by simp [MapKept.IsKey]
        have hck : ∀ em, (Instr.checkKey em 10000 kt (.int kd n)).run P w = .ok () w := fun em => MapKept.run_checkKey hu hik' em 9999
        rcases find_rel (n := n) hl with ⟨h1, h2⟩ | ⟨i, q, en, h1, h2, h3, h4, h5, h6⟩
        · rw [h1] at hx
          simp only [Option.some.injEq] at hx
          have hfk : (Instr.findKey kt (.int kd n) es.toList).run P w = .ok none w := by
            rcases MapKept.findNow_spec hik' es.toList 0 (keys_of hl) with ⟨g1, _⟩ | ⟨j', e', g1, g2, g3⟩
            · exact MapKept.run_findKey hu g1
            · exact absurd g3 (h2 e' (List.mem_of_getElem? g2))
          refine ⟨if ok then .tuple #[zv, .bool false] else zv, ?_, ?_⟩
          · simp [execOp, em, hv, Instr.lookup, run_und ht, eb, hgo, hck, hfk, hzv]
          · subst hx
            cases ok with
            | true => exact ⟨#[zv, .bool false], rfl, lrel.cons hzr (lrel.cons rfl lrel.nil)⟩
            | false => exact hzr
        · rw [h1] at hx
          simp only [Option.some.injEq] at hx
          obtain ⟨_, hval⟩ : True ∧ avrel E q.2 en.val := ⟨trivial, (hl.2 i q en h2 h3).2.2⟩
          have hfk : ∃ i', (Instr.findKey kt (.int kd n) es.toList).run P w = .ok (some (i', en.val)) w :=
            ⟨_, MapKept.run_findKey hu (findNow_first es.toList 0 i en (keys_of hl) h3 h4 (fun i' hi' r hr he => by
              have hlt : i' < kvs.length := by rw [hl.1]; exact (List.getElem?_eq_some_iff.1 hr).1
              have hrr := hl.2 i' kvs[i'] r (List.getElem?_eq_getElem hlt) hr
              obtain ⟨_, n', hn', hv'⟩ := isKey_of hrr.1 hrr.2.1
              rw [he] at hv'; cases hv'
              exact h6 i' hi' kvs[i'] (List.getElem?_eq_getElem hlt) hn'))⟩
          obtain ⟨i', hfk⟩ := hfk
          refine ⟨if ok then .tuple #[en.val, .bool true] else en.val, ?_, ?_⟩
          · simp [execOp, em, hv, Instr.lookup, run_und ht, eb, hgo, hck, hfk]
          · subst hx
            cases ok with
            | true => exact ⟨#[en.val, .bool true], rfl, lrel.cons hval (lrel.cons rfl lrel.nil)⟩
            | false => exact hval
      · rw [if_neg hc] at hx; cases hx
    · cases hx
  · cases hx
theorem l_lenm (H : HRel base w0 E h w) (hT : TRel E ρ a) {c : Call} (hc : c.callee = .builtin .len) {y : Operand} {y' : Opd} {t kt et : TypeId} (hl : c.args.toList = [y]) (ht : c.argTypes.toList = [t]) (hu : P.underlying t = some (.map kt et)) (hy : opd y = some y')
    (hx : lv ρ h (.lenm y') = some x) : ∃ v, (execOp a.eval ⟨d, .call c, ty, ps, af, gd⟩).run P w = .ok (.value v) w ∧ trel E x v := by
  simp only [lv] at hx
  have hargs : c.args = #[y] := by rw [← Array.toList_inj, hl]
  have htys : c.argTypes = #[t] := by rw [← Array.toList_inj, ht]
  split at hx
  · rename_i j hj
    have em := opd_rel hT hy
    rw [hj] at em
    obtain ⟨p, hp, em⟩ := em
    split at hx
    · rename_i ky kvs ho
      simp only [Option.some.injEq] at hx
      subst hx
      obtain ⟨q, b, es, clk, hq, e, _, hh, hl⟩ := H.obj j _ ho
      rw [hp] at hq; cases hq
      have eb : p.1.block = b := by rw [e]
      have hgo := MapKept.run_getObj_map (P := P) hh
      have : es.size = kvs.length := by rw [hl.1]; simp
      exact ⟨.int .i64 kvs.length, by simp [execOp, resolve, hc, hargs, htys, invoke, builtin, Builtin.len_, em, run_und hu, goInt, eb, hgo, this], rfl⟩
    · cases hx
  · cases hx
end

end Go.Am
