/- Rows of cells, slices that are read and slices of the call's own. Conditions: as each theorem says. -/
import Derived.Test.YthoicdnlcnppgaaAmXo
set_option linter.unusedVariables false
set_option linter.unusedSimpArgs false
namespace Go.Am

/-! ### Rows of cells -/
section
variable {α : Type} {enc : α → List Cell} {w : Nat}
theorem rows_len (hw : ∀ a, (enc a).length = w) : ∀ l : List α, (l.flatMap enc).length = l.length * w
  | [] => by simp
  | a :: l => by simp [List.flatMap_cons, hw, rows_len hw l, Nat.add_mul, Nat.add_comm]
theorem rows_drop (hw : ∀ a, (enc a).length = w) : ∀ (l : List α) (i : Nat), (l.flatMap enc).drop (i * w) = (l.drop i).flatMap enc
  | [], i => by simp
  | a :: l, 0 => by simp
  | a :: l, i + 1 => by
    rw [List.flatMap_cons, List.drop_succ_cons, ← rows_drop hw l i, Nat.add_mul, Nat.one_mul, Nat.add_comm, List.drop_append, hw, List.drop_of_length_le (by rw [hw]; omega)]
    simp
theorem rows_take (hw : ∀ a, (enc a).length = w) : ∀ (l : List α) (i : Nat), (l.flatMap enc).take (i * w) = (l.take i).flatMap enc
  | [], i => by simp
  | a :: l, 0 => by simp
  | a :: l, i + 1 => by
    rw [List.flatMap_cons, List.take_succ_cons, List.flatMap_cons, ← rows_take hw l i, Nat.add_mul, Nat.one_mul, Nat.add_comm, List.take_append, hw, List.take_of_length_le (by rw [hw]; omega)]
    simp
theorem rows_get (hw : ∀ a, (enc a).length = w) (l : List α) {i k n : Nat} (hi : i < l.length) (hk : k + n ≤ w) : ((l.flatMap enc).drop (i * w + k)).take n = ((enc l[i]).drop k).take n := by
  rw [← List.drop_drop, rows_drop hw, List.drop_eq_getElem_cons hi, List.flatMap_cons, List.drop_append, List.take_append]
  rw [List.length_drop, hw, show n - (w - k) = 0 by omega]
  simp
theorem setAt_len {cs xs : List Cell} {p : Nat} (h : p + xs.length ≤ cs.length) : (setAt cs p xs).length = cs.length := by simp [setAt]; omega
theorem rows_split (l : List α) {i : Nat} (hi : i < l.length) : l.flatMap enc = (l.take i).flatMap enc ++ enc l[i] ++ (l.drop (i + 1)).flatMap enc := by
  have e : l = l.take i ++ l[i] :: l.drop (i + 1) := by rw [← List.drop_eq_getElem_cons hi, List.take_append_drop]
  have := congrArg (List.flatMap enc) e
  rw [List.flatMap_append, List.flatMap_cons, ← List.append_assoc] at this
  exact this
theorem rows_set (hw : ∀ a, (enc a).length = w) (l : List α) {i k : Nat} (hi : i < l.length) {xs : List Cell} (hk : k + xs.length ≤ w) {a : α} (ha : setAt (enc l[i]) k xs = enc a) :
    setAt (l.flatMap enc) (i * w + k) xs = (l.set i a).flatMap enc := by
  rw [rows_split (l.set i a) (i := i) (by simpa using hi)]
  simp only [List.getElem_set_self]
  rw [← ha, List.take_set_of_le (by omega), List.drop_set_of_lt (by omega)]
  rw [rows_split l hi]
  have h1 : ((l.take i).flatMap enc).length = i * w := by rw [rows_len hw, List.length_take, Nat.min_eq_left (by omega)]
  have h2 := hw l[i]
  unfold setAt
  have e1 : List.take (i * w + k) ((l.take i).flatMap enc ++ enc l[i] ++ (l.drop (i + 1)).flatMap enc) = (l.take i).flatMap enc ++ (enc l[i]).take k := by
    rw [List.append_assoc, List.take_append, h1, List.take_of_length_le (by omega), show i * w + k - i * w = k by omega, List.take_append, h2, show k - w = 0 by omega]
    simp
  have e2 : List.drop (i * w + k + xs.length) ((l.take i).flatMap enc ++ enc l[i] ++ (l.drop (i + 1)).flatMap enc) = (enc l[i]).drop (k + xs.length) ++ (l.drop (i + 1)).flatMap enc := by
    rw [List.append_assoc, List.drop_append, h1, List.drop_of_length_le (by omega), show i * w + k + xs.length - i * w = k + xs.length by omega, List.drop_append, h2, show k + xs.length - w = 0 by omega]
    simp
  rw [e1, e2]
  simp
theorem rows_get0 (hw : ∀ a, (enc a).length = w) (l : List α) {i : Nat} (hi : i < l.length) : ((l.flatMap enc).drop (i * w)).take w = enc l[i] := by
  have := rows_get hw l (k := 0) (n := w) hi (by omega)
  rw [Nat.add_zero, List.drop_zero] at this
  rw [this, List.take_of_length_le (by rw [hw]; omega)]
theorem rows_get1 (hw : ∀ a, (enc a).length = w) (l : List α) {i k : Nat} (hi : i < l.length) (hk : k < w) : (l.flatMap enc)[i * w + k]? = (enc l[i])[k]? := by
  have := congrArg (fun x : List Cell => x[0]?) (rows_get hw l (k := k) (n := 1) hi (by omega))
  simpa using this
theorem rows_set0 (hw : ∀ a, (enc a).length = w) (l : List α) {i : Nat} (hi : i < l.length) (a : α) : setAt (l.flatMap enc) (i * w) (enc a) = (l.set i a).flatMap enc := by
  have := rows_set hw l (i := i) (k := 0) hi (xs := enc a) (by rw [hw]; omega) (a := a) (by
    have e : (enc l[i]).length = (enc a).length := by rw [hw, hw]
    unfold setAt
    rw [List.take_zero, Nat.zero_add, List.drop_of_length_le (by omega)]; simp)
  rwa [Nat.add_zero] at this
theorem rows_set1 (hw : ∀ a, (enc a).length = w) (l : List α) {i k : Nat} (hi : i < l.length) (hk : k < w) {c : Cell} {a : α} (ha : (enc l[i]).set k c = enc a) : (l.flatMap enc).set (i * w + k) c = (l.set i a).flatMap enc := by
  have h1 : i * w + k < (l.flatMap enc).length := by
    rw [rows_len hw]
    have : (i + 1) * w ≤ l.length * w := Nat.mul_le_mul_right _ hi
    rw [Nat.add_mul] at this; omega
  have e : setAt (l.flatMap enc) (i * w + k) [c] = (l.flatMap enc).set (i * w + k) c := by
    rw [List.set_eq_take_append_cons_drop, if_pos h1]; simp [setAt]
  rw [← e]
  refine rows_set hw l hi (by simp; omega) ?_
  rw [← ha, List.set_eq_take_append_cons_drop, if_pos (by rw [hw]; exact hk)]; simp [setAt]
theorem solid_rows (hs : ∀ a, solid (enc a) = true) (l : List α) : solid (l.flatMap enc) = true := by
  simp only [solid, List.all_flatMap]
  exact List.all_eq_true.2 fun a _ => hs a
theorem solid_take {l : List Cell} (h : solid l = true) (n : Nat) : solid (l.take n) = true := by
  unfold solid at h ⊢
  exact List.all_eq_true.2 fun a ha => List.all_eq_true.1 h a (List.mem_of_mem_take ha)
end
@[simp] theorem solid_append (a b : List Cell) : solid (a ++ b) = (solid a && solid b) := by simp [solid, List.all_append]
/-- Whole numbers as rows of one cell. -/
def enI (n : Int) : List Cell := [.int .i64 n]
def enB (b : Bool) : List Cell := [.bool b]
theorem enI_len (n : Int) : (enI n).length = 1 := rfl
theorem enB_len (n : Bool) : (enB n).length = 1 := rfl
theorem enI_solid (n : Int) : solid (enI n) = true := rfl
theorem enB_solid (n : Bool) : solid (enB n) = true := by cases n <;> rfl
theorem reps_rows {α : Type} (enc : α → List Cell) (z : α) : ∀ n : Nat, reps (enc z) n = (List.replicate n z).flatMap enc
  | 0 => rfl
  | n + 1 => by rw [reps, List.replicate_succ, List.flatMap_cons, reps_rows enc z n]
/-! ### Slices that are read, slices of the call's own -/
/-- The cells of a family are not f's. -/
def notFam (f : Nat) : Option AObj → Prop
  | some (.cells f' _ _ _ _) => f' ≠ f
  | _ => True
@[simp] theorem notFam_cells {f f' : Nat} {ro : Bool} {e s : Nat} {cs : List Cell} : notFam f (some (.cells f' ro e s cs)) = (f' ≠ f) := rfl
@[simp] theorem notFam_map {f : Nat} {k : Key} {kvs : List (AV × AV)} : notFam f (some (.map k kvs)) = True := rfl
@[simp] theorem notFam_none {f : Nat} : notFam f none = True := rfl
theorem killBut_not {f j0 j : Nat} {o : Nat → Option AObj} (h : notFam f (o j)) : killBut f j0 o j = o j := by
  unfold killBut
  split
  · rename_i ho
    rw [ho] at h
    rw [if_neg (fun hc => h hc.1), ho]
  · rfl
theorem kill_not {f n j : Nat} {o : Nat → Option AObj} (h : notFam f (o j)) : kill f n o j = o j := by
  unfold kill
  split
  · rename_i ho
    rw [ho] at h
    rw [if_neg (fun hc => h hc.1), ho]
  · rfl
structure LTn (a b : Nat) : Prop where
  lt : a < b
structure NFam (f : Nat) (o : Option AObj) : Prop where
  nf : notFam f o
@[simp] theorem killBut_lt (f j0 j : Nat) (o : Nat → Option AObj) (h : LTn j f) : killBut f j0 o j = o j := killBut_old h.lt
@[simp] theorem killBut_nf (f j0 j : Nat) (o : Nat → Option AObj) (h : NFam f (o j)) : killBut f j0 o j = o j := killBut_not h.nf
@[simp] theorem kill_lt (f n j : Nat) (o : Nat → Option AObj) (h : LTn j f) : kill f n o j = o j := kill_old h.lt
@[simp] theorem kill_nf (f n j : Nat) (o : Nat → Option AObj) (h : NFam f (o j)) : kill f n o j = o j := kill_not h.nf
section
variable {α : Type} {enc : α → List Cell} {w : Nat}
/-- A slice that reads l; its object's number is below n. -/
def View (o : Nat → Option AObj) (n : Nat) (x : Cell) (enc : α → List Cell) (l : List α) : Prop :=
  (x = .nils ∧ l = []) ∨ ∃ j f ro e s more, x = .slice j 0 l.length ∧ j < n ∧ o j = some (.cells f ro e s ((l ++ more).flatMap enc))
theorem View.keep {o o' : Nat → Option AObj} {n n' : Nat} {x : Cell} {l : List α} (v : View o n x enc l) (hn : n ≤ n') (ho : ∀ i, i < n → o' i = o i) : View o' n' x enc l := by
  rcases v with v | ⟨j, f, ro, e, s, more, hx, hj, hc⟩
  · exact .inl v
  · exact .inr ⟨j, f, ro, e, s, more, hx, by omega, by rw [ho j hj]; exact hc⟩
theorem View.le {a b : AH} {x : Cell} {l : List α} (v : View a.o a.nx x enc l) (h : a.le b) : View b.o b.nx x enc l := v.keep h.1 h.2
theorem View.take {o : Nat → Option AObj} {n : Nat} {x : Cell} {l : List α} (v : View o n x enc l) {k : Nat} (hk : k ≤ l.length) (hx : x ≠ .nils) : ∃ j, x = .slice j 0 l.length ∧ View o n (.slice j 0 k) enc (l.take k) := by
  rcases v with ⟨rfl, _⟩ | ⟨j, f, ro, e, s, more, rfl, hj, hc⟩
  · exact absurd rfl hx
  · exact ⟨j, rfl, .inr ⟨j, f, ro, e, s, l.drop k ++ more, by simp [Nat.min_eq_left hk], hj, by rw [hc, ← List.append_assoc, List.take_append_drop]⟩⟩
/-- An element read. -/
theorem View.get {o : Nat → Option AObj} {n : Nat} {x : Cell} {l : List α} (v : View o n x enc l) (hw : ∀ a, (enc a).length = w) {i : Nat} (hi : i < l.length) :
    ∃ j f ro e s cs, x = .slice j 0 l.length ∧ j < n ∧ o j = some (.cells f ro e s cs) ∧ i * w + w ≤ cs.length ∧ (∀ k m, k + m ≤ w → (cs.drop (i * w + k)).take m = ((enc l[i]).drop k).take m) ∧ (cs.drop (i * w)).take w = enc l[i] ∧ ∀ k, k < w → cs[i * w + k]? = (enc l[i])[k]? := by
  rcases v with ⟨_, rfl⟩ | ⟨j, f, ro, e, s, more, rfl, hj, hc⟩
  · simp at hi
  · have hlt : i < (l ++ more).length := by simp; omega
    have hg : (l ++ more)[i] = l[i] := List.getElem_append_left hi
    refine ⟨j, f, ro, e, s, _, rfl, hj, hc, ?_, fun k m hk => ?_, ?_, fun k hk => ?_⟩
    · rw [rows_len hw, ← Nat.succ_mul]; exact Nat.mul_le_mul_right _ (by omega)
    · rw [rows_get hw _ hlt hk, hg]
    · have := rows_get hw (l ++ more) (k := 0) (n := w) hlt (by omega)
      rw [Nat.add_zero, hg, List.drop_zero] at this
      rw [this, List.take_of_length_le (by rw [hw]; omega)]
    · have := rows_get hw (l ++ more) (k := k) (n := 1) hlt (by omega)
      rw [hg] at this
      have a1 := congrArg (fun x : List Cell => x[0]?) this
      simpa using a1
/-- The same for elements of one cell. -/
theorem View.get1 {o : Nat → Option AObj} {n : Nat} {x : Cell} {l : List α} (v : View o n x enc l) {g : α → Cell} (hg : ∀ a, enc a = [g a]) {i : Nat} (hi : i < l.length) :
    ∃ j f ro e s cs, x = .slice j 0 l.length ∧ j < n ∧ o j = some (.cells f ro e s cs) ∧ i < cs.length ∧ cs[i]? = some (g l[i]) := by
  obtain ⟨j, f, ro, e, s, cs, hx, hj, ho, hl, _, _, h2⟩ := v.get (w := 1) (fun a => by rw [hg]; rfl) hi
  have := h2 0 (by omega)
  rw [Nat.mul_one, Nat.add_zero, hg] at this
  exact ⟨j, f, ro, e, s, cs, hx, hj, ho, by omega, this⟩
theorem View.len {o : Nat → Option AObj} {n : Nat} {x : Cell} {l : List α} (v : View o n x enc l) : (x = .nils ∧ l.length = 0) ∨ ∃ j, x = .slice j 0 l.length := by
  rcases v with ⟨h, rfl⟩ | ⟨j, _, _, _, _, _, h, _⟩
  · exact .inl ⟨h, rfl⟩
  · exact .inr ⟨j, h⟩
/-- The length of a slice. -/
theorem View.lenV {o : Nat → Option AObj} {n : Nat} {x : Cell} {l : List α} (v : View o n x enc l) {fs : Nat → Option AFunc} {out : Rec} (j : Nat) (t : Nat → T) (h : AH) (Q : T → AH → Prop) :
    wV fs out j t h (.len (.k (.v (.one x)))) Q = Q (.v (.one (.int .i64 l.length))) h := by
  rcases v.len with ⟨rfl, h0⟩ | ⟨j, rfl⟩
  · rw [x_lennil, h0]; rfl
  · rw [x_len]
theorem View.src {h : AH} {n : Nat} {x : Cell} {l : List α} (v : View h.o n x enc l) (hw : ∀ a, (enc a).length = w) : srcCells h w x = some (l.length, l.flatMap enc) := by
  rcases v with ⟨rfl, rfl⟩ | ⟨j, f, ro, e, s, more, rfl, hj, hc⟩
  · rfl
  · have h1 : 0 + l.length * w ≤ ((l ++ more).flatMap enc).length := by rw [rows_len hw, Nat.zero_add]; exact Nat.mul_le_mul_right _ (by simp)
    have h2 : (((l ++ more).flatMap enc).drop 0).take (l.length * w) = l.flatMap enc := by rw [List.drop_zero, rows_take hw, List.take_left]
    simp only [srcCells, rdCells, hc, if_pos h1, h2, Option.map_some]
theorem src_one {h : AH} {j f e s : Nat} {ro : Bool} {a : α} (ho : h.o j = some (.cells f ro e s (enc a))) (hw : (enc a).length = w) : srcCells h w (.slice j 0 1) = some ([a].length, [a].flatMap enc) := by
  simp only [srcCells, rdCells, ho]
  rw [if_pos (by omega), List.drop_zero, List.take_of_length_le (by omega)]
  simp
/-- A slice of the call's own, with elements of type e and w cells; its object's number and its family f are from lo on, and below n. -/
def Own (o : Nat → Option AObj) (lo n : Nat) (x : Cell) (e w : Nat) (enc : α → List Cell) (l : List α) (f : Nat) : Prop :=
  (x = .nils ∧ l = []) ∨ ∃ j, x = .slice j 0 l.length ∧ o j = some (.cells f false e w (l.flatMap enc)) ∧ lo ≤ f ∧ f ≤ j ∧ j < n
theorem Own.view {o : Nat → Option AObj} {lo n : Nat} {x : Cell} {e w : Nat} {l : List α} {f : Nat} (h : Own o lo n x e w enc l f) : View o n x enc l := by
  rcases h with h | ⟨j, hx, ho, _, _, hn⟩
  · exact .inl h
  · exact .inr ⟨j, f, false, e, w, [], hx, hn, by rw [List.append_nil]; exact ho⟩
theorem Own.nil {o : Nat → Option AObj} {lo n : Nat} {e w : Nat} {f : Nat} : Own o lo n .nils e w enc [] f := .inl ⟨rfl, rfl⟩
/-- What is kept of a slice of one's own. -/
theorem Own.keep {o o' : Nat → Option AObj} {lo n n' : Nat} {x : Cell} {e w : Nat} {l : List α} {f : Nat} (h : Own o lo n x e w enc l f) (hn : n ≤ n')
    (ho : ∀ i cs, lo ≤ i → i < n → o i = some (.cells f false e w cs) → o' i = o i) : Own o' lo n' x e w enc l f := by
  rcases h with h | ⟨j, hx, hj, h1, h2, h3⟩
  · exact .inl h
  · exact .inr ⟨j, hx, by rw [ho j _ (by omega) h3 hj]; exact hj, h1, h2, by omega⟩
theorem Own.keep' {o o' : Nat → Option AObj} {lo n n' : Nat} {x : Cell} {e w : Nat} {l : List α} {f : Nat} (h : Own o lo n x e w enc l f) (hn : n ≤ n')
    (ho : ∀ i, i < n → o' i = o i) : Own o' lo n' x e w enc l f := h.keep hn fun i _ _ hi _ => ho i hi
variable {fs : Nat → Option AFunc} {out : Rec}
/-- append, on a slice of one's own. -/
theorem app_own {e w bytes : Nat} {t : Nat → T} {h : AH} {j : Nat} {x y : Cell} {l l2 : List α} {lo n f : Nat} {Q : T → AH → Prop} (hj : lo ≤ j) (hn : n ≤ j)
    (H : Own h.o lo n x e w enc l f) (hsrc : srcCells h w y = some (l2.length, l2.flatMap enc))
    (hw : ∀ a, (enc a).length = w) (hs : ∀ a, solid (enc a) = true) (w0 : 0 < w) (hb : (l.length + l2.length) * bytes ≤ 140737488355328 ∧ l.length + l2.length ≤ 9223372036854775807)
    (k : ∀ x' f' o', Own o' lo (j + 1) x' e w enc (l ++ l2) f' → (f' = f ∨ f' = j) → (∀ i, i ≠ j → (i < lo ∨ notFam f (h.o i)) → o' i = h.o i) → Q (.v (.one x')) ⟨o', h.nx⟩) : wV fs out j t h (.app e w bytes (.k (.v (.one x))) (.k (.v (.one y)))) Q := by
  rw [v_app]
  simp only [apv, opd_k, hsrc, Option.bind_some, solid_rows hs, if_true, tag_eq]
  rcases H with ⟨rfl, rfl⟩ | ⟨i, rfl, ho, h1, h2, h3⟩
  · try simp only []
    by_cases hm : l2.length = 0
    · have : l2 = [] := List.eq_nil_of_length_eq_zero hm
      subst this
      rw [if_pos (by rfl)]
      exact k .nils f h.o (.inl ⟨rfl, rfl⟩) (.inl rfl) (fun _ _ _ => rfl)
    · rw [if_neg hm, if_pos ⟨w0, by simpa using hb.1, by simpa using hb.2⟩]
      exact k _ j _ (.inr ⟨j, by simp, by simp, hj, Nat.le_refl _, by omega⟩) (.inr rfl) (fun i hi _ => by simp [upd, hi])
  · have hlen : ((l.flatMap enc).length) = l.length * w := rows_len hw l
    simp only [ho]
    rw [if_pos ⟨trivial, trivial, trivial, w0, trivial, by omega, hb.1, by omega, solid_take (solid_rows hs _) _, by omega⟩]
    show Q _ _
    refine k _ f _ (.inr ⟨j, by simp, ?_, h1, by omega, by omega⟩) (.inl rfl) (fun i hi hc => ?_)
    · simp only [upd_app, if_true]
      rw [List.take_of_length_le (by omega), List.flatMap_append]
    · simp only [upd_app, if_neg hi]
      rcases hc with hc | hc
      · exact kill_old (by omega)
      · exact kill_not hc
/-- A store into an object of one's own. -/
theorem store_own {m p : Nat} {t : Nat → T} {h : AH} {j q : Nat} {a : AV} {f e w : Nat} {cs : List Cell} {Q : T → AH → Prop}
    (ho : h.o q = some (.cells f false e w cs)) (hl : a.cells.length = m) (hp : p + m ≤ cs.length) (hs : solid a.cells = true)
    (k : ∀ o', o' q = some (.cells f false e w (setAt cs p a.cells)) → (∀ i, i ≠ q → (i < f ∨ notFam f (h.o i)) → o' i = h.o i) → Q (.tup []) ⟨o', h.nx⟩) : wV fs out j t h (.store m (.k (.v (.one (.ptr q p)))) (.k (.v a))) Q := by
  rw [v_store]
  simp only [sv, opd_k, ho, tag_eq]
  rw [if_pos ⟨trivial, hl, hp, hs⟩]
  show Q _ _
  refine k _ (by simp) fun i hi hc => ?_
  simp only [upd_app, if_neg hi]
  cases w with
  | zero => rfl
  | succ w =>
    simp only [killIf_succ]
    rcases hc with hc | hc
    · exact killBut_old hc
    · exact killBut_not hc
end
/-- A result that is read from a cell. -/
theorem resc_box {s : St} {r j n f e w : Nat} {ro : Bool} {cs : List Cell} (h1 : s.t r = .v (.one (.ptr j 0))) (h2 : s.h.o j = some (.cells f ro e w cs)) (h3 : cs.length = n) : resc s (some (some n)) [r] = some (.v (.agg cs)) := by
  simp only [resc, h1, ldv, rdCells, h2]
  rw [if_pos (by omega), List.drop_zero, List.take_of_length_le (by omega)]
  rfl
/-- A load that reads the same behind what came between. -/
theorem hold_load {s : St} {d x j o f e w : Nat} {ro : Bool} {cs : List Cell} {c : Cell} (h1 : s.t d = .v (.one c)) (h2 : s.t x = .v (.one (.ptr j o))) (h3 : s.h.o j = some (.cells f ro e w cs)) (h4 : cs[o]? = some c) :
    holdOk s ⟨some d, .load none (.t x), none⟩ = true := by
  simp only [holdOk, wants, h1, lv, Opd.ev, h2, ldv_one, h3, h4, Option.map_some, sameV, decide_true]
theorem hold_loadn {s : St} {d x j o f e w n : Nat} {ro : Bool} {cs : List Cell} {g : Option (Nat × Bool)} (hg : wants s.t g = some true) (h1 : s.t d = .v (.agg ((cs.drop o).take n))) (h2 : s.t x = .v (.one (.ptr j o))) (h3 : s.h.o j = some (.cells f ro e w cs)) (h4 : o + n ≤ cs.length) :
    holdOk s ⟨some d, .load (some n) (.t x), g⟩ = true := by
  simp only [holdOk, hg, h1, lv, Opd.ev, h2, ldv, rdCells, h3]
  rw [if_pos h4]
  simp only [Option.map_some, sameV, decide_true]
theorem hold_skip {s : St} {o : AOper} (hg : wants s.t o.guard = some false) : holdOk s o = true := by simp only [holdOk, hg]
/-- Whole numbers that fit. -/
theorem wrap64 {v : Int} (h1 : -9223372036854775808 ≤ v) (h2 : v < 9223372036854775808) : IntKind.i64.wrap v = v := by rw [IntKind.wrap_i64]; omega
def pickN (v n : Int) : Int := (IntKind.u64.wrap v) % n
theorem pickN_range (v : Int) {n : Int} (h1 : 1 ≤ n) : 0 ≤ pickN v n ∧ pickN v n < n :=
  ⟨Int.emod_nonneg _ (by omega), Int.emod_lt_of_pos _ (by omega)⟩
theorem wrapu64 (v : Int) : IntKind.u64.wrap v = v % 18446744073709551616 := rfl

end Go.Am
