/- Operations that lay new objects are what the model does. Conditions: as each theorem says. -/
import Derived.Test.YthoicdnlcnppgaaAmLv
set_option linter.unusedVariables false
set_option linter.unusedSimpArgs false
namespace Go.Am
open Go.RowKit
/-! ### What lays new objects -/
section
variable {P : Program} {E : Env} {ρ : Nat → T} {a : Act} {d : Option Tmp} {ty : TypeId} {ps : String} {af : Array Edge} {gd : Option (Nat × Bool)} {x : T} {base : Nat} {w0 w : World} {h : AH}
theorem solidCells_rel {v : Value} {l : List Cell} (h : solidCells v = some l) : lrel (crel E) l v.cells.toList ∧ solid l = true := by
  unfold solidCells at h
  split at h
  · rename_i hs
    simp only [Option.some.injEq] at h
    subst h
    refine ⟨⟨by simp, fun i x y hx hy => ?_⟩, hs⟩
    rw [List.getElem?_map, hy] at hx
    simp only [Option.map_some, Option.some.injEq] at hx
    subst hx
    exact cellOf_rel E y
  · cases h
theorem zeroP_rel {P : Program} {t : TypeId} {z : List Cell} (h : zeroP P t = some z) : ∃ i v, P.info? t = some i ∧ i.zero = some v ∧ (∀ w, (zeroValue t).run P w = .ok v w) ∧ lrel (crel E) z v.cells.toList ∧ solid z = true := by
  unfold zeroP at h
  obtain ⟨i, hi, h⟩ := Option.bind_eq_some_iff.1 h
  obtain ⟨v, hv, h⟩ := Option.bind_eq_some_iff.1 h
  have := solidCells_rel (E := E) h
  exact ⟨i, v, hi, hv, fun w => by simp [zeroValue, typeInfo, hi, hv], this.1, this.2⟩
/-- What a step that lays number j leaves. -/
def Lays (P : Program) (base : Nat) (w0 : World) (E : Env) (ρ : Operand → Value) (o : Oper) (w : World) (j : Nat) (x : T) (h' : AH) : Prop :=
  ∃ v w' E', (execOp ρ o).run P w = .ok (.value v) w' ∧ E.le E' ∧ (∀ i, i ≠ j → E' i = E i) ∧ HRel base w0 E' h' w' ∧ trel E' x v
theorem lrel_array {cs : List Cell} {arr : Array Value} (h : lrel (crel E) cs arr.toList) : ∀ (i : Nat) c, cs[i]? = some c → ∃ v, arr[i]? = some v ∧ crel E c v := by
  intro i c hc
  obtain ⟨v, hv, hr⟩ := h.get hc
  exact ⟨v, by simpa using hv, hr⟩
theorem laid_ptr (H : HRel base w0 E h w) {j : Nat} (hj : E j = none) (hlt : j < h.nx) {e : TypeId} {cs : List Cell} {arr : Array Value} (hl : lrel (crel E) cs arr.toList) :
    HRel base w0 (upd E j (some (⟨w.heap.size, 0, none⟩, none))) (h.set j (.cells j false e 0 cs)) (w.alloc (.cells arr e)) := by
  have hle : E.le (upd E j (some (⟨w.heap.size, 0, none⟩, none))) := Env.le_upd _ hj
  refine H.alloc hj hlt none _ _ (fun _ _ _ _ q => by cases q) (fun _ _ _ _ q => by cases q; exact Nat.le_refl _) ⟨_, w.heap.size, arr, upd_same _ _ _, rfl, H.size, heap_new w _, fun i c hc => ?_, fun q => by omega⟩
  obtain ⟨v, hv, hr⟩ := lrel_array hl i c hc
  exact ⟨v, hv, hr.mono hle⟩
theorem laid_row (H : HRel base w0 E h w) {j : Nat} (hj : E j = none) (hlt : j < h.nx) {e : TypeId} {esz cap : Nat} {cs : List Cell} {arr : Array Value} (hl : ∀ (i : Nat) c, cs[i]? = some c → ∃ v, arr[i]? = some v ∧ crel E c v) (hs : arr.size = cap * esz) (hc : cap ≤ maxLen) :
    HRel base w0 (upd E j (some (⟨w.heap.size, 0, none⟩, some cap))) (h.set j (.cells j false e esz cs)) (w.alloc (.cells arr e)) := by
  have hle : E.le (upd E j (some (⟨w.heap.size, 0, none⟩, some cap))) := Env.le_upd _ hj
  refine H.alloc hj hlt (some cap) _ _ (fun _ _ _ _ q => by cases q) (fun _ _ _ _ q => by cases q; exact Nat.le_refl _) ⟨_, w.heap.size, arr, upd_same _ _ _, rfl, H.size, heap_new w _, fun i c hc => ?_, fun q => ⟨cap, rfl, hs.symm, hc⟩⟩
  obtain ⟨v, hv, hr⟩ := hl i c hc
  exact ⟨v, hv, hr.mono hle⟩
theorem slice_new {j n cap : Nat} {b : Nat} (hn : n ≤ cap) : crel (upd E j (some ((⟨b, 0, none⟩ : Addr), some cap))) (.slice j 0 n) (.slice (some ⟨b, 0, none⟩) n cap) :=
  ⟨_, ⟨b, 0, none⟩, cap, upd_same _ _ _, rfl, hn, fun _ => ⟨rfl, fun c hc => by cases hc; rfl⟩, fun _ => by rw [addr0]⟩
theorem ptr_new {j : Nat} {b : Nat} {c : Option Nat} : crel (upd E j (some ((⟨b, 0, none⟩ : Addr), c))) (.ptr j 0) (.pointer (some ⟨b, 0, none⟩)) :=
  ⟨_, upd_same _ _ _, by rw [addr0]⟩
theorem n_new (H : HRel base w0 E h w) {j : Nat} (hj : E j = none) (hlt : j < h.nx) {t : TypeId} {z : List Cell} (hz : zeroP P t = some z) {ob : AObj} (hx : nv ρ j (.new t z) = some (x, ob)) :
    Lays P base w0 E a.eval ⟨d, .alloc t, ty, ps, af, gd⟩ w j x (h.set j ob) := by
  simp only [nv, Option.some.injEq, Prod.mk.injEq] at hx
  obtain ⟨rfl, rfl⟩ := hx
  obtain ⟨i, v, _, _, hzv, hl, _⟩ := zeroP_rel (E := E) hz
  refine ⟨_, _, _, ?_, Env.le_upd _ hj, fun i hi => upd_ne _ _ hi, laid_ptr H hj hlt hl, ptr_new⟩
  simp [execOp, Instr.alloc, hzv, newVar, newRow]
theorem n_box (H : HRel base w0 E h w) (hT : TRel E ρ a) {j : Nat} (hj : E j = none) (hlt : j < h.nx) {t : TypeId} {n : Nat} {y : Operand} {y' : Opd} (hy : opd y = some y') {ob : AObj} (hx : nv ρ j (.box t n y') = some (x, ob)) :
    Lays P base w0 E a.eval ⟨d, .box t y, ty, ps, af, gd⟩ w j x (h.set j ob) := by
  simp only [nv] at hx
  split at hx
  · rename_i b hb
    by_cases hc : b.cells.length = n ∧ solid b.cells = true
    · rw [if_pos hc] at hx
      simp only [Option.some.injEq, Prod.mk.injEq] at hx
      obtain ⟨rfl, rfl⟩ := hx
      have hr := opd_rel hT hy
      rw [hb] at hr
      refine ⟨_, _, _, ?_, Env.le_upd _ hj, fun i hi => upd_ne _ _ hi, laid_ptr H hj hlt (avrel.cells hr hc.2), ptr_new⟩
      simp [execOp, Instr.box, newVar, newRow]
    · rw [if_neg hc] at hx; cases hx
  · cases hx
theorem reps_len (z : List Cell) : ∀ n, (reps z n).length = n * z.length
  | 0 => by simp [reps]
  | n + 1 => by simp [reps, reps_len z n, Nat.add_mul, Nat.add_comm]
theorem reps_get (z : List Cell) (hz : 0 < z.length) : ∀ (n i : Nat), i < n * z.length → (reps z n)[i]? = z[i % z.length]?
  | 0, i, h => by simp at h
  | n + 1, i, h => by
    by_cases hi : i < z.length
    · rw [reps, List.getElem?_append_left hi, Nat.mod_eq_of_lt hi]
    · rw [reps, List.getElem?_append_right (by omega), reps_get z hz n (i - z.length) (by rw [Nat.add_mul] at h; omega), Nat.mod_eq_sub_mod (a := i) (b := z.length) (by omega)]
theorem made_rel {z : List Cell} {zv : Array Value} (hl : lrel (crel E) z zv.toList) (hz : 0 < z.length) (n : Nat) : ∀ (i : Nat) c, (reps z n)[i]? = some c → ∃ v, (madeCells zv (n * z.length))[i]? = some v ∧ crel E c v := by
  intro i c hc
  have hi : i < n * z.length := by rw [← reps_len z n]; exact (List.getElem?_eq_some_iff.1 hc).1
  rw [reps_get z hz n i hi] at hc
  obtain ⟨v, hv, hr⟩ := hl.get hc
  have hzs : zv.size = z.length := by rw [hl.1]; simp
  refine ⟨v, ?_, hr⟩
  have hlt : i % z.length < zv.size := by rw [hzs]; exact Nat.mod_lt _ hz
  unfold madeCells
  rw [Array.getElem?_map, Array.getElem?_range, if_pos hi]
  simp only [Option.map_some, Option.some.injEq]
  rw [hzs, getElem!_pos zv _ (by exact hlt)]
  rw [Array.getElem?_toList] at hv
  exact (Array.getElem?_eq_some_iff.1 hv).2
theorem n_mks (H : HRel base w0 E h w) (hT : TRel E ρ a) {j : Nat} (hj : E j = none) (hlt : j < h.nx) {t e : TypeId} {i : TypeInfo} {z : List Cell} (ht : P.underlying t = some (.slice e)) (hi : P.info? e = some i) (hz : zeroP P e = some z)
    (hzl : z.length = i.size) (h0 : 0 < i.size) {l c : Operand} {l' c' : Opd} (hl : opd l = some l') (hc : opd c = some c') {ob : AObj} (hx : nv ρ j (.mks e i.size i.bytes z l' c') = some (x, ob)) :
    Lays P base w0 E a.eval ⟨d, .makeSlice t l c, ty, ps, af, gd⟩ w j x (h.set j ob) := by
  simp only [nv] at hx
  split at hx
  · rename_i n c hn hcn
    by_cases hb : n = c ∧ 0 ≤ n ∧ n * i.bytes ≤ 140737488355328 ∧ n ≤ 9223372036854775807
    · rw [if_pos hb] at hx
      simp only [Option.some.injEq, Prod.mk.injEq] at hx
      obtain ⟨rfl, rfl⟩ := hx
      obtain ⟨rfl, hn0, hbb, hm⟩ := hb
      have e1 := opd_int hT hl hn
      have e2 := opd_int hT hc hcn
      obtain ⟨i', v, hi', hv, hzv, hlr, _⟩ := zeroP_rel (E := E) hz
      rw [hi] at hi'; cases hi'
      have hr := run_make (P := P) w t e i v ht hi hv .i64 .i64 n n hn0 (Int.le_refl _) (by rw [Int.mul_comm]; omega) hm
      have hsz : (madeCells v.cells (n.toNat * i.size)).size = n.toNat * i.size := size_madeCells _ _
      refine ⟨_, _, _, ?_, Env.le_upd _ hj, fun i hi => upd_ne _ _ hi, laid_row (cap := n.toNat) H hj hlt (arr := madeCells v.cells (n.toNat * i.size)) (fun k c hk => ?_) hsz (by simp only [maxLen]; omega), slice_new (Nat.le_refl _)⟩
      · simp [execOp, e1, e2, hr]
      · rw [← hzl]
        exact made_rel hlr (by omega) _ k c hk
    · rw [if_neg hb] at hx; cases hx
  · cases hx
theorem n_mkm (H : HRel base w0 E h w) {j : Nat} (hj : E j = none) (hlt : j < h.nx) {t : TypeId} {ky : Key} {ob : AObj} (hx : nv ρ j (.mkm ky) = some (x, ob)) :
    Lays P base w0 E a.eval ⟨d, .makeMap t none, ty, ps, af, gd⟩ w j x (h.set j ob) := by
  simp only [nv, Option.some.injEq, Prod.mk.injEq] at hx
  obtain ⟨rfl, rfl⟩ := hx
  refine ⟨.map (some w.heap.size), w.alloc (.map #[] 0), upd E j (some (⟨w.heap.size, 0, none⟩, none)), ?_, Env.le_upd _ hj, fun i hi => upd_ne _ _ hi, ?_, ⟨_, upd_same _ _ _, rfl⟩⟩
  · simp [execOp, Instr.makeMap]
  · exact H.alloc hj hlt none _ _ (fun _ _ _ _ q => by cases q) (fun _ _ _ _ q => by cases q) ⟨_, w.heap.size, #[], 0, upd_same _ _ _, rfl, H.size, heap_new w _, lrel.nil⟩
/-! ### Values put together -/
theorem foldl_set (off : Nat) : ∀ (l : List Value) (k : Nat) (arr : Array Value), off + k + l.length ≤ arr.size →
    ((l.zipIdx k).foldl (fun cs (p : Value × Nat) => cs.setIfInBounds (off + p.2) p.1) arr).toList = arr.toList.take (off + k) ++ l ++ arr.toList.drop (off + k + l.length)
  | [], k, arr, _ => by simp
  | v :: l, k, arr, h => by
    simp only [List.length_cons] at h
    rw [List.zipIdx_cons, List.foldl_cons, foldl_set off l (k + 1) _ (by simp; omega)]
    simp only [Array.toList_setIfInBounds, List.length_cons]
    have := list_seg_step arr.toList (off + k) v l (by simp; omega)
    rw [show off + (k + 1) = off + k + 1 by omega]
    exact this
theorem fill_rel {place : Nat → Option (Nat × Nat)} (hT : TRel E ρ a) : ∀ (parts : List (Nat × Operand)) (parts' : List (Nat × Nat × Opd)) (cs cs' : List Cell) (arr : Array Value), partsP place parts = some parts' → lrel (crel E) cs arr.toList →
    fillA ρ cs parts' = some cs' → ∃ arr', Instr.fill place arr (parts.map fun p => (p.1, a.eval p.2)) = some arr' ∧ lrel (crel E) cs' arr'.toList
  | [], parts', cs, cs', arr, hp, hl, hf => by
    simp only [partsP, Option.some.injEq] at hp
    subst hp
    simp only [fillA, Option.some.injEq] at hf
    subst hf
    exact ⟨arr, rfl, hl⟩
  | (i, y) :: parts, parts', cs, cs', arr, hp, hl, hf => by
    simp only [partsP] at hp
    obtain ⟨q, hq, hp⟩ := Option.bind_eq_some_iff.1 hp
    obtain ⟨y', hy, hp⟩ := Option.bind_eq_some_iff.1 hp
    obtain ⟨rest, hrest, rfl⟩ := Option.map_eq_some_iff.1 hp
    simp only [fillA] at hf
    split at hf
    · rename_i b hb
      by_cases hc : b.cells.length = q.2 ∧ q.1 + q.2 ≤ cs.length ∧ solid b.cells = true
      · rw [if_pos hc] at hf
        have hr := opd_rel hT hy
        rw [hb] at hr
        have hcl := avrel.cells hr hc.2.2
        have hsz : (a.eval y).cells.size = q.2 := by rw [← hc.1, hcl.1]; simp
        have harr : arr.size = cs.length := by rw [hl.1]; simp
        have hfold := foldl_set q.1 (a.eval y).cells.toList 0 arr (by simp; omega)
        have hl2 : lrel (crel E) (setAt cs q.1 b.cells) (((a.eval y).cells.zipIdx.foldl (fun cs (p : Value × Nat) => cs.setIfInBounds (q.1 + p.2) p.1) arr).toList) := by
          rw [← Array.foldl_toList, Array.toList_zipIdx, hfold]
          unfold setAt
          rw [hcl.1]
          simp only [Nat.add_zero]
          exact ((hl.take _).append hcl).append (hl.drop _)
        obtain ⟨arr', h1, h2⟩ := fill_rel hT parts rest _ cs' _ hrest hl2 hf
        refine ⟨arr', ?_, h2⟩
        simp only [List.map_cons, Instr.fill, hq]
        have n1 : ((a.eval y).cells.size ≠ q.2 || q.1 + (a.eval y).cells.size > arr.size) = false := by
          simp [hsz, harr]; omega
        simp only [n1]
        exact h1
      · rw [if_neg hc] at hf; cases hf
    · cases hf
theorem fillA_len : ∀ (parts : List (Nat × Nat × Opd)) (cs cs' : List Cell), fillA ρ cs parts = some cs' → cs'.length = cs.length
  | [], cs, cs', h => by simp only [fillA, Option.some.injEq] at h; rw [h]
  | (off, n, y) :: parts, cs, cs', h => by
    simp only [fillA] at h
    split at h
    · rename_i b hb
      by_cases hc : b.cells.length = n ∧ off + n ≤ cs.length ∧ solid b.cells = true
      · rw [if_pos hc] at h
        rw [fillA_len parts _ _ h]
        simp [setAt]; omega
      · rw [if_neg hc] at h; cases h
    · cases h
theorem n_bsl (H : HRel base w0 E h w) (hT : TRel E ρ a) {j : Nat} (hj : E j = none) (hlt : j < h.nx) {t e : TypeId} {n len : Nat} {z : List Cell} {parts : Array (Nat × Operand)} {parts' : List (Nat × Nat × Opd)} (ht : P.underlying t = some (.slice e)) (hs : szP P e = some n) (hz : zeroP P e = some z)
    (hzl : z.length = n) (h0 : 0 < n) (hlen : len * n ≤ 16777216) (hp : partsP (fun i => some (i * n, n)) parts.toList = some parts') {ob : AObj} (hx : nv ρ j (.bsl e n len z parts') = some (x, ob)) :
    Lays P base w0 E a.eval ⟨d, .buildSlice t len parts, ty, ps, af, gd⟩ w j x (h.set j ob) := by
  simp only [nv] at hx
  obtain ⟨cs, hcs, hx⟩ := Option.map_eq_some_iff.1 hx
  simp only [Prod.mk.injEq] at hx
  obtain ⟨rfl, rfl⟩ := hx
  obtain ⟨i, v, hi, hv, hzv, hlr, _⟩ := zeroP_rel (E := E) hz
  obtain ⟨arr0, harr0, hl0⟩ : ∃ arr0 : Array Value, arr0 = madeCells v.cells (len * n) ∧ lrel (crel E) (reps z len) arr0.toList := by
    refine ⟨_, rfl, ⟨by rw [reps_len, hzl]; simp [size_madeCells], fun k c u hc hu => ?_⟩⟩
    obtain ⟨u', hu', hr⟩ := made_rel hlr (by omega) len k c hc
    rw [hzl] at hu'
    rw [Array.getElem?_toList] at hu
    rw [hu] at hu'; cases hu'
    exact hr
  obtain ⟨arr, h1, h2⟩ := fill_rel hT parts.toList parts' _ cs arr0 hp hl0 hcs
  have hsz : arr.size = len * n := by
    have e1 : arr.size = cs.length := by rw [h2.1]; simp
    have e2 : cs.length = (reps z len).length := fillA_len parts' _ _ hcs
    rw [e1, e2, reps_len, hzl]
  have hfill : Instr.fill (fun i => some (i * n, n)) (madeCells v.cells (len * n)) ((parts.map fun (p : Nat × Operand) => (p.1, a.eval p.2)).toList) = some arr := by
    rw [← harr0, Array.toList_map]; exact h1
  have n1 : ¬ 2 ^ 24 < len * n := by omega
  have hlenb : len ≤ maxLen := by
    have : len ≤ len * n := Nat.le_mul_of_pos_right _ h0
    simp only [maxLen]; omega
  refine ⟨_, _, _, ?_, Env.le_upd _ hj, fun i hi => upd_ne _ _ hi, laid_row (cap := len) H hj hlt (arr := arr) (fun k c hk => lrel_array h2 k c hk) hsz hlenb, slice_new (Nat.le_refl _)⟩
  by_cases hn0 : len * n = 0
  · have hmc : madeCells v.cells (len * n) = (Array.range (len * n)).map ((#[] : Array Value)[· % (#[] : Array Value).size]!) := by
      rw [hn0]
      apply Array.ext
      · simp [madeCells]
      · intro k h1 h2
        simp [madeCells] at h1
    rw [hmc] at hfill
    simp only [execOp, Instr.buildSlice, Sem.run_bind, run_und ht, Result.andThen_ok, run_size hs]
    rw [if_neg n1]
    simp only [if_pos hn0, Sem.run_bind, Sem.run_pure, Result.andThen_ok]
    rw [hfill]
    simp [newRow]
  · simp only [execOp, Instr.buildSlice, Sem.run_bind, run_und ht, Result.andThen_ok, run_size hs]
    rw [if_neg n1]
    simp only [if_neg hn0, Sem.run_bind, hzv, Sem.run_pure, Result.andThen_ok]
    unfold madeCells at hfill
    rw [hfill]
    simp [newRow]
theorem g_build_arr (hT : TRel E ρ a) {t e : TypeId} {n l0 : Nat} {z : List Cell} {parts : Array (Nat × Operand)} {parts' : List (Nat × Nat × Opd)} (ht : P.underlying t = some (.array l0 e)) (hs : szP P e = some n) (hz : zeroP P t = some z)
    (hp : partsP (fun i => some (i * n, n)) parts.toList = some parts') (hx : pv ρ (.build z parts') = some x) : Gives P E a.eval ⟨d, .build t parts, ty, ps, af, gd⟩ x := by
  simp only [pv] at hx
  obtain ⟨cs, hcs, rfl⟩ := Option.map_eq_some_iff.1 hx
  obtain ⟨i, v, hi, hv, hzv, hlr, _⟩ := zeroP_rel (E := E) hz
  obtain ⟨arr, h1, h2⟩ := fill_rel hT parts.toList parts' _ cs v.cells hp hlr hcs
  refine ⟨.agg arr, fun w => ?_, ⟨arr, rfl, h2⟩⟩
  have hfill : Instr.fill (fun i => some (i * n, n)) v.cells ((parts.map fun (p : Nat × Operand) => (p.1, a.eval p.2)).toList) = some arr := by
    rw [Array.toList_map]; exact h1
  simp only [execOp, Instr.build, Sem.run_bind, hzv, Result.andThen_ok, run_und ht, run_size hs]
  rw [hfill]
  simp
theorem g_build_str (hT : TRel E ρ a) {t : TypeId} {fs : Array Field} {z : List Cell} {parts : Array (Nat × Operand)} {parts' : List (Nat × Nat × Opd)} (ht : P.underlying t = some (.struct fs)) (hfs : (fs.all fun f => (szP P f.type).isSome) = true) (hz : zeroP P t = some z)
    (hp : partsP (fieldP P fs) parts.toList = some parts') (hx : pv ρ (.build z parts') = some x) : Gives P E a.eval ⟨d, .build t parts, ty, ps, af, gd⟩ x := by
  simp only [pv] at hx
  obtain ⟨cs, hcs, rfl⟩ := Option.map_eq_some_iff.1 hx
  obtain ⟨i, v, hi, hv, hzv, hlr, _⟩ := zeroP_rel (E := E) hz
  obtain ⟨arr, h1, h2⟩ := fill_rel hT parts.toList parts' _ cs v.cells hp hlr hcs
  refine ⟨.agg arr, fun w => ?_, ⟨arr, rfl, h2⟩⟩
  -- the fields' places
  have key : ∀ (l : List Field), (∀ f ∈ l, (szP P f.type).isSome = true) → ∀ w, (l.mapM fun f => (do pure (f.offset, ← sizeOf f.type) : Sem (Nat × Nat))).run P w = .ok (l.map fun f => (f.offset, (szP P f.type).getD 0)) w := by
    intro l
    induction l with
    | nil => intro _ w; simp
    | cons f l ih =>
      intro hl w
      obtain ⟨n, hn⟩ := Option.isSome_iff_exists.1 (hl f (.head _))
      rw [List.mapM_cons]
      simp only [Sem.run_bind, run_size hn, Sem.run_pure, Result.andThen_ok]
      rw [ih (fun g hg => hl g (.tail _ hg)) w]
      simp [hn]
  have hall : ∀ f ∈ fs.toList, (szP P f.type).isSome = true := by
    intro f hf
    have := Array.all_eq_true'.1 hfs f (by simpa using hf)
    exact this
  have hplaces : (fs.mapM fun f => (do pure (f.offset, ← sizeOf f.type) : Sem (Nat × Nat))).run P w = .ok (fs.map fun f => (f.offset, (szP P f.type).getD 0)) w := by
    rw [Array.mapM_eq_mapM_toList]
    simp only [Sem.run_map]
    rw [key fs.toList hall w]
    simp only [Result.andThen_ok]
    congr 1
    rw [← Array.toList_inj]
    simp
  have hpl : ∀ i, (fs.map fun f => (f.offset, (szP P f.type).getD 0))[i]? = fieldP P fs i := by
    intro i
    unfold fieldP
    rw [Array.getElem?_map]
    cases hf : fs[i]? with
    | none => rfl
    | some f =>
      obtain ⟨n, hn⟩ := Option.isSome_iff_exists.1 (hall f (by have := Array.mem_of_getElem? hf; simpa using this))
      simp [hn]
  have hfill : Instr.fill (fun i => (fs.map fun f => (f.offset, (szP P f.type).getD 0))[i]?) v.cells ((parts.map fun (p : Nat × Operand) => (p.1, a.eval p.2)).toList) = some arr := by
    have : (fun i => (fs.map fun f => (f.offset, (szP P f.type).getD 0))[i]?) = fieldP P fs := funext hpl
    rw [this, Array.toList_map]; exact h1
  simp only [execOp, Instr.build, Sem.run_bind, hzv, Result.andThen_ok, run_und ht]
  rw [hplaces]
  simp only [Result.andThen_ok]
  rw [hfill]
  simp
end

end Go.Am
