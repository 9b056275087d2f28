/- Operations on values, as equations. Conditions: as each theorem says. -/
import Derived.Test.YthoicdnlcnppgaaAmEv
set_option linter.unusedVariables false
set_option linter.unusedSimpArgs false
namespace Go.Am

/-! ### Operations on values, as equations for simp -/
def onCells (o : Option AObj) (K : Nat → Bool → Nat → Nat → List Cell → Prop) : Prop := match o with
  | some (.cells f ro e s cs) => K f ro e s cs
  | _ => False
def onMap (o : Option AObj) (K : Key → List (AV × AV) → Prop) : Prop := match o with
  | some (.map k kvs) => K k kvs
  | _ => False
@[congr] theorem onCells_congr {o o' : Option AObj} {K : Nat → Bool → Nat → Nat → List Cell → Prop} (h : Unit → tag o = o') : onCells o K = onCells o' K := by have := h (); rw [tag_eq] at this; subst this; rfl
@[congr] theorem onMap_congr {o o' : Option AObj} {K : Key → List (AV × AV) → Prop} (h : Unit → tag o = o') : onMap o K = onMap o' K := by have := h (); rw [tag_eq] at this; subst this; rfl
@[simp ↓] theorem onCells_cells {f e s : Nat} {ro : Bool} {cs : List Cell} {K : Nat → Bool → Nat → Nat → List Cell → Prop} : onCells (some (.cells f ro e s cs)) K = K f ro e s cs := rfl
@[simp ↓] theorem onMap_map {k : Key} {kvs : List (AV × AV)} {K : Key → List (AV × AV) → Prop} : onMap (some (.map k kvs)) K = K k kvs := rfl
/-- What is asked first, then. -/
def reqP (c : Prop) (A : Prop) : Prop := c ∧ A
@[congr] theorem reqP_congr {c c' A : Prop} (h : Unit → tag c = c') : reqP c A = reqP c' A := by have := h (); rw [tag_eq] at this; subst this; rfl
@[simp ↓] theorem reqP_true {A : Prop} : reqP True A = A := by simp [reqP]
@[simp ↓] theorem reqP_false {A : Prop} : reqP False A = False := by simp [reqP]
theorem reqP_mk {c A : Prop} (h1 : c) (h2 : A) : reqP c A := ⟨h1, h2⟩
theorem ite_req {c : Prop} [Decidable c] {A : Prop} : (if c then A else False) = reqP c A := by unfold reqP; split <;> simp_all
@[simp 1100] theorem getq_zero {α : Type} (a : α) (l : List α) : (a :: l)[0]? = some a := by simp
@[simp 1100] theorem getq_succ {α : Type} (a : α) (l : List α) (n : Nat) : (a :: l)[n + 1]? = l[n]? := by simp
@[simp] theorem cells_one (c : Cell) : AV.cells (.one c) = [c] := by rw [AV.cells]
@[simp] theorem cells_agg (cs : List Cell) : AV.cells (.agg cs) = cs := by rw [AV.cells]
@[simp] theorem solid_nil : solid [] = true := by unfold solid; simp
@[simp] theorem solid_cons (c : Cell) (cs : List Cell) : solid (c :: cs) = (c != .junk && solid cs) := by unfold solid; simp
@[simp] theorem opd_k (t : Nat → T) (x : T) : Opd.ev t (.k x) = x := by rw [Opd.ev]
@[simp] theorem evs_none (t : Nat → T) : evs t [] = [] := by rw [evs]
@[simp] theorem evs_k (t : Nat → T) (x : T) (l : List Opd) : evs t (.k x :: l) = x :: evs t l := by rw [evs, opd_k]
@[simp] theorem bnd_none (t : Nat → T) (d : Nat) : bnd t d none = some (d : Int) := by rw [bnd]
@[simp] theorem bnd_some (t : Nat → T) (d : Nat) (k : IntKind) (n : Int) : bnd t d (some (.k (.v (.one (.int k n))))) = some n := by simp [bnd]
@[simp] theorem fillA_nil (t : Nat → T) (cs : List Cell) : fillA t cs [] = some cs := by rw [fillA]
theorem setAt_one {cs : List Cell} {off : Nat} {c : Cell} (h : off < cs.length) : setAt cs off [c] = cs.set off c := by
  rw [List.set_eq_take_append_cons_drop]; simp [setAt, h]
@[simp] theorem fillA_one (t : Nat → T) (cs : List Cell) (off : Nat) (c : Cell) (rest : List (Nat × Nat × Opd)) :
    fillA t cs ((off, 1, .k (.v (.one c))) :: rest) = if off < cs.length ∧ c ≠ .junk then fillA t (cs.set off c) rest else none := by
  rw [fillA]; simp only [opd_k, cells_one, List.length_cons, List.length_nil]
  by_cases h : off < cs.length ∧ c ≠ .junk
  · rw [if_pos h, if_pos ⟨by simp, by omega, by simp [h.2]⟩, setAt_one h.1]
  · rw [if_neg h, if_neg]
    rintro ⟨_, h1, h2⟩
    exact h ⟨by omega, by simpa using h2⟩
@[simp] theorem fillA_agg (t : Nat → T) (cs : List Cell) (off n : Nat) (xs : List Cell) (rest : List (Nat × Nat × Opd)) :
    fillA t cs ((off, n, .k (.v (.agg xs))) :: rest) = if xs.length = n ∧ off + n ≤ cs.length ∧ solid xs = true then fillA t (setAt cs off xs) rest else none := by
  rw [fillA]; simp only [opd_k, cells_agg]
@[simp] theorem setAt_nil (cs : List Cell) (n : Nat) : setAt cs n [] = cs := by simp [setAt]
@[simp] theorem setAt_zero (c x : Cell) (cs xs : List Cell) : setAt (c :: cs) 0 (x :: xs) = x :: setAt cs 0 xs := by simp [setAt]
@[simp] theorem setAt_succ (c : Cell) (cs xs : List Cell) (n : Nat) : setAt (c :: cs) (n + 1) xs = c :: setAt cs n xs := by simp [setAt, Nat.add_right_comm]
@[simp] theorem reps_zero (z : List Cell) : reps z 0 = [] := by rw [reps]
@[simp] theorem reps_one (z : List Cell) : reps z 1 = z := by rw [reps, reps]; simp
@[simp] theorem eqc_nil : eqc [] [] [] = some true := by rw [eqc]
@[simp] theorem eqc_int (sh : List Bool) (k : IntKind) (a b : Int) (cs ds : List Cell) : eqc (true :: sh) (.int k a :: cs) (.int k b :: ds) = (eqc sh cs ds).map fun r => (a == b) && r := by rw [eqc]; simp
@[simp] theorem eqc_bool (sh : List Bool) (a b : Bool) (cs ds : List Cell) : eqc (false :: sh) (.bool a :: cs) (.bool b :: ds) = (eqc sh cs ds).map fun r => (a == b) && r := by rw [eqc]
theorem ldv_one {h : AH} {j off : Nat} : ldv h none j off = match h.o j with
    | some (.cells _ _ _ _ cs) => (cs[off]?).map AV.one
    | _ => none := by
  unfold ldv rdCells
  cases h.o j with
  | none => rfl
  | some x => cases x with
    | map k kvs => rfl
    | cells f ro e s cs =>
      simp only []
      by_cases h1 : off + 1 ≤ cs.length
      · have : off < cs.length := by omega
        have e : (cs.drop off).take 1 = [cs[off]] := by rw [List.drop_eq_getElem_cons this, List.take_succ_cons, List.take_zero]
        rw [if_pos h1, Option.bind_some, e, List.getElem?_eq_getElem this]
        rfl
      · rw [if_neg h1, List.getElem?_eq_none (by omega)]; rfl
section
variable {fs : Nat → Option AFunc} {out : Rec} {j : Nat} {t : Nat → T} {h : AH} {Q : T → AH → Prop}
@[simp ↓] theorem x_mov (x : T) : wV fs out j t h (.mov (.k x)) Q = Q x h := by rw [v_mov]; simp [pv]
@[simp ↓] theorem x_pickt (x y : T) : wV fs out j t h (.pick (.k (.v (.one (.bool true)))) (.k x) (.k y)) Q = Q x h := by rw [v_pick]; simp [pv]
@[simp ↓] theorem x_pickf (x y : T) : wV fs out j t h (.pick (.k (.v (.one (.bool false)))) (.k x) (.k y)) Q = Q y h := by rw [v_pick]; simp [pv]
@[simp ↓] theorem x_add (k : IntKind) (a b : Int) : wV fs out j t h (.bin .add (.k (.v (.one (.int k a)))) (.k (.v (.one (.int k b))))) Q = Q (.v (.one (.int k (k.wrap (a + b))))) h := by rw [v_bin]; simp [pv, binI]
@[simp ↓] theorem x_sub (k : IntKind) (a b : Int) : wV fs out j t h (.bin .sub (.k (.v (.one (.int k a)))) (.k (.v (.one (.int k b))))) Q = Q (.v (.one (.int k (k.wrap (a - b))))) h := by rw [v_bin]; simp [pv, binI]
@[simp ↓] theorem x_mul (k : IntKind) (a b : Int) : wV fs out j t h (.bin .mul (.k (.v (.one (.int k a)))) (.k (.v (.one (.int k b))))) Q = Q (.v (.one (.int k (k.wrap (a * b))))) h := by rw [v_bin]; simp [pv, binI]
@[simp ↓] theorem x_quo (k : IntKind) (a b : Int) : wV fs out j t h (.bin .quo (.k (.v (.one (.int k a)))) (.k (.v (.one (.int k b))))) Q = reqP (¬ b = 0) (Q (.v (.one (.int k (k.wrap (a.tdiv b))))) h) := by rw [v_bin, ← ite_req]; by_cases hb : b = 0 <;> simp [pv, binI, hb]
@[simp ↓] theorem x_rem (k : IntKind) (a b : Int) : wV fs out j t h (.bin .rem (.k (.v (.one (.int k a)))) (.k (.v (.one (.int k b))))) Q = reqP (¬ b = 0) (Q (.v (.one (.int k (a.tmod b)))) h) := by rw [v_bin, ← ite_req]; by_cases hb : b = 0 <;> simp [pv, binI, hb]
@[simp ↓] theorem x_eql (k : IntKind) (a b : Int) : wV fs out j t h (.bin .eql (.k (.v (.one (.int k a)))) (.k (.v (.one (.int k b))))) Q = Q (.v (.one (.bool (a == b)))) h := by rw [v_bin]; simp [pv, binI]
@[simp ↓] theorem x_neq (k : IntKind) (a b : Int) : wV fs out j t h (.bin .neq (.k (.v (.one (.int k a)))) (.k (.v (.one (.int k b))))) Q = Q (.v (.one (.bool (a != b)))) h := by rw [v_bin]; simp [pv, binI]
@[simp ↓] theorem x_lss (k : IntKind) (a b : Int) : wV fs out j t h (.bin .lss (.k (.v (.one (.int k a)))) (.k (.v (.one (.int k b))))) Q = Q (.v (.one (.bool (decide (a < b))))) h := by rw [v_bin]; simp [pv, binI]
@[simp ↓] theorem x_leq (k : IntKind) (a b : Int) : wV fs out j t h (.bin .leq (.k (.v (.one (.int k a)))) (.k (.v (.one (.int k b))))) Q = Q (.v (.one (.bool (decide (a ≤ b))))) h := by rw [v_bin]; simp [pv, binI]
@[simp ↓] theorem x_gtr (k : IntKind) (a b : Int) : wV fs out j t h (.bin .gtr (.k (.v (.one (.int k a)))) (.k (.v (.one (.int k b))))) Q = Q (.v (.one (.bool (decide (b < a))))) h := by rw [v_bin]; simp [pv, binI]
@[simp ↓] theorem x_geq (k : IntKind) (a b : Int) : wV fs out j t h (.bin .geq (.k (.v (.one (.int k a)))) (.k (.v (.one (.int k b))))) Q = Q (.v (.one (.bool (decide (b ≤ a))))) h := by rw [v_bin]; simp [pv, binI]
@[simp ↓] theorem x_eqb (a b : Bool) : wV fs out j t h (.eqb false (.k (.v (.one (.bool a)))) (.k (.v (.one (.bool b))))) Q = Q (.v (.one (.bool (a == b)))) h := by rw [v_eqb]; simp [pv]
@[simp ↓] theorem x_neb (a b : Bool) : wV fs out j t h (.eqb true (.k (.v (.one (.bool a)))) (.k (.v (.one (.bool b))))) Q = Q (.v (.one (.bool (!(a == b))))) h := by rw [v_eqb]; simp [pv]
@[simp ↓] theorem x_eqp (n : Bool) (a o : Nat) : wV fs out j t h (.eqp n (.k (.v (.one (.ptr a o))))) Q = Q (.v (.one (.bool n))) h := by rw [v_eqp]; simp [pv]
@[simp ↓] theorem x_eqn (n : Bool) : wV fs out j t h (.eqp n (.k (.v (.one .nilp)))) Q = Q (.v (.one (.bool (!n)))) h := by rw [v_eqp]; simp [pv]
@[simp ↓] theorem x_eqs (n : Bool) (sh : List Bool) (cs ds : List Cell) : wV fs out j t h (.eqs n sh (.k (.v (.agg cs))) (.k (.v (.agg ds)))) Q = onSome (eqc sh cs ds) fun r => Q (.v (.one (.bool (if n = true then !r else r)))) h := by rw [v_eqs]; simp [pv]
@[simp ↓] theorem x_not (b : Bool) : wV fs out j t h (.not (.k (.v (.one (.bool b))))) Q = Q (.v (.one (.bool (!b)))) h := by rw [v_not]; simp [pv]
@[simp ↓] theorem x_conv (k k' : IntKind) (n : Int) : wV fs out j t h (.conv k (.k (.v (.one (.int k' n))))) Q = Q (.v (.one (.int k (k.wrap n)))) h := by rw [v_conv]; simp [pv]
@[simp ↓] theorem x_nilchk (a o : Nat) : wV fs out j t h (.nilchk (.k (.v (.one (.ptr a o))))) Q = Q (.v (.one (.ptr a o))) h := by rw [v_nilchk]; simp [pv]
@[simp ↓] theorem x_fadr (off a o : Nat) : wV fs out j t h (.fadr off (.k (.v (.one (.ptr a o))))) Q = Q (.v (.one (.ptr a (o + off)))) h := by rw [v_fadr]; simp [pv]
@[simp ↓] theorem x_iadr (w a o n : Nat) (k : IntKind) (i : Int) : wV fs out j t h (.iadr w (.k (.v (.one (.slice a o n)))) (.k (.v (.one (.int k i))))) Q = reqP (0 ≤ i ∧ i < n) (Q (.v (.one (.ptr a (o + i.toNat * w)))) h) := by
  rw [v_iadr, ← ite_req]; by_cases hb : 0 ≤ i ∧ i < n <;> simp [pv, hb]
@[simp ↓] theorem x_iadrA (m w a o : Nat) (k : IntKind) (i : Int) : wV fs out j t h (.iadrA m w (.k (.v (.one (.ptr a o)))) (.k (.v (.one (.int k i))))) Q = reqP (0 ≤ i ∧ i < m) (Q (.v (.one (.ptr a (o + i.toNat * w)))) h) := by
  rw [v_iadrA, ← ite_req]; by_cases hb : 0 ≤ i ∧ i < m <;> simp [pv, hb]
@[simp ↓] theorem x_ext0 (a : AV) (l : List AV) : wV fs out j t h (.ext 0 (.k (.tup (a :: l)))) Q = Q (.v a) h := by rw [v_ext]; simp [pv]
@[simp ↓] theorem x_extS (i : Nat) (a : AV) (l : List AV) : wV fs out j t h (.ext (i + 1) (.k (.tup (a :: l)))) Q = wV fs out j t h (.ext i (.k (.tup l))) Q := by rw [v_ext, v_ext]; simp [pv]
@[simp ↓] theorem x_len (a o n : Nat) : wV fs out j t h (.len (.k (.v (.one (.slice a o n))))) Q = Q (.v (.one (.int .i64 n))) h := by rw [v_len]; simp [pv]
@[simp ↓] theorem x_lennil : wV fs out j t h (.len (.k (.v (.one .nils)))) Q = Q (.v (.one (.int .i64 0))) h := by rw [v_len]; simp [pv]
@[simp ↓] theorem x_slc (w a o n : Nat) (lo hi : Option Opd) : wV fs out j t h (.slc w (.k (.v (.one (.slice a o n)))) lo hi) Q =
    onSome (bnd t 0 lo) fun l => onSome (bnd t n hi) fun m => reqP (0 ≤ l ∧ l ≤ m ∧ m ≤ n) (Q (.v (.one (.slice a (o + l.toNat * w) (m.toNat - l.toNat)))) h) := by
  rw [v_slc]
  simp only [pv, opd_k]
  cases bnd t 0 lo <;> cases bnd t n hi <;> simp [← ite_req]
@[simp ↓] theorem x_slcnil (w : Nat) (lo hi : Option Opd) : wV fs out j t h (.slc w (.k (.v (.one .nils))) lo hi) Q =
    onSome (bnd t 0 lo) fun l => onSome (bnd t 0 hi) fun m => reqP (l = 0 ∧ m = 0) (Q (.v (.one .nils)) h) := by
  rw [v_slc]
  simp only [pv, opd_k]
  cases bnd t 0 lo <;> cases bnd t 0 hi <;> simp [← ite_req]
@[simp ↓] theorem x_build (z : List Cell) (ps : List (Nat × Nat × Opd)) : wV fs out j t h (.build z ps) Q = onSome (fillA t z ps) fun cs => Q (.v (.agg cs)) h := by rw [v_build]; simp [pv]
@[simp ↓] theorem x_max2 (k k' : IntKind) (a b : Int) : wV fs out j t h (.max2 (.k (.v (.one (.int k a)))) (.k (.v (.one (.int k' b))))) Q = Q (.v (.one (.int k (if b > a then b else a)))) h := by rw [v_max2]; simp [pv]
@[simp ↓] theorem x_load (a o : Nat) : wV fs out j t h (.load none (.k (.v (.one (.ptr a o))))) Q = onCells (h.o a) fun _ _ _ _ cs => onSome (cs[o]?) fun c => Q (.v (.one c)) h := by
  rw [v_load]
  simp only [lv, opd_k, ldv_one]
  cases h.o a with
  | none => rfl
  | some x => cases x with
    | cells f ro e s cs => simp only [onCells]; cases cs[o]? <;> rfl
    | map k kvs => rfl
@[simp ↓] theorem x_loadn (n a o : Nat) : wV fs out j t h (.load (some n) (.k (.v (.one (.ptr a o))))) Q = onCells (h.o a) fun _ _ _ _ cs => reqP (o + n ≤ cs.length) (Q (.v (.agg ((cs.drop o).take n))) h) := by
  rw [v_load]
  simp only [lv, opd_k, ldv, rdCells]
  cases h.o a with
  | none => rfl
  | some x => cases x with
    | cells f ro e s cs => simp only [onCells, ← ite_req]; by_cases hb : o + n ≤ cs.length <;> simp [hb]
    | map k kvs => rfl
@[simp ↓] theorem x_new (e : Nat) (cs : List Cell) : wV fs out j t h (.new e cs) Q = Q (.v (.one (.ptr j 0))) ⟨upd h.o j (some (.cells j false e 0 cs)), h.nx⟩ := by rw [v_new]; simp [nv]
@[simp ↓] theorem x_box (e n : Nat) (a : AV) : wV fs out j t h (.box e n (.k (.v a))) Q = reqP (a.cells.length = n ∧ solid a.cells = true) (Q (.v (.one (.ptr j 0))) ⟨upd h.o j (some (.cells j false e 0 a.cells)), h.nx⟩) := by
  rw [v_box, ← ite_req]; by_cases hb : a.cells.length = n ∧ solid a.cells = true <;> simp [nv, hb]
@[simp ↓] theorem x_mks (e s b : Nat) (z : List Cell) (n c : Int) : wV fs out j t h (.mks e s b z (.k (.v (.one (.int .i64 n)))) (.k (.v (.one (.int .i64 c))))) Q =
    reqP (n = c ∧ 0 ≤ n ∧ n * b ≤ 140737488355328 ∧ n ≤ 9223372036854775807) (Q (.v (.one (.slice j 0 n.toNat))) ⟨upd h.o j (some (.cells j false e s (reps z n.toNat))), h.nx⟩) := by
  rw [v_mks, ← ite_req]
  simp only [nv, opd_k]
  by_cases hb : n = c ∧ 0 ≤ n ∧ n * b ≤ 140737488355328 ∧ n ≤ 9223372036854775807
  · rw [if_pos hb, if_pos hb]; rfl
  · rw [if_neg hb, if_neg hb]; rfl
@[simp ↓] theorem x_bsl (e s l : Nat) (z : List Cell) (ps : List (Nat × Nat × Opd)) : wV fs out j t h (.bsl e s l z ps) Q = onSome (fillA t (reps z l) ps) fun cs => Q (.v (.one (.slice j 0 l))) ⟨upd h.o j (some (.cells j false e s cs)), h.nx⟩ := by
  rw [v_bsl]; simp only [nv]; cases fillA t (reps z l) ps <;> simp
@[simp ↓] theorem x_mkm (k : Key) : wV fs out j t h (.mkm k) Q = Q (.v (.one (.map j))) ⟨upd h.o j (some (.map k [])), h.nx⟩ := by rw [v_mkm]; simp [nv]
@[simp ↓] theorem x_store (n a o : Nat) (x : AV) : wV fs out j t h (.store n (.k (.v (.one (.ptr a o)))) (.k (.v x))) Q =
    onCells (h.o a) fun f ro e s cs => reqP (ro = false ∧ x.cells.length = n ∧ o + n ≤ cs.length ∧ solid x.cells = true) (Q (.tup []) ⟨upd (killIf s f a h.o) a (some (.cells f false e s (setAt cs o x.cells))), h.nx⟩) := by
  rw [v_store]
  simp only [sv, opd_k]
  cases h.o a with
  | none => rfl
  | some y => cases y with
    | cells f ro e s cs => simp only [onCells, ← ite_req]; by_cases hb : ro = false ∧ x.cells.length = n ∧ o + n ≤ cs.length ∧ solid x.cells = true <;> simp [hb]
    | map k kvs => rfl
@[simp ↓ 1100] theorem x_store1 (a o : Nat) (c : Cell) : wV fs out j t h (.store 1 (.k (.v (.one (.ptr a o)))) (.k (.v (.one c)))) Q =
    onCells (h.o a) fun f ro e s cs => reqP (ro = false ∧ o < cs.length ∧ c ≠ .junk) (Q (.tup []) ⟨upd (killIf s f a h.o) a (some (.cells f false e s (cs.set o c))), h.nx⟩) := by
  rw [x_store]
  cases h.o a with
  | none => rfl
  | some y => cases y with
    | cells f ro e s cs =>
      simp only [onCells, ← ite_req, cells_one, tag_eq]
      by_cases hb : ro = false ∧ o < cs.length ∧ c ≠ .junk
      · rw [if_pos hb, if_pos ⟨hb.1, rfl, by omega, by simp [hb.2.2]⟩, setAt_one hb.2.1]
      · rw [if_neg hb, if_neg]
        rintro ⟨h1, _, h2, h3⟩
        exact hb ⟨h1, by omega, by simpa using h3⟩
    | map k kvs => rfl
@[simp ↓] theorem x_look (ky : Key) (z : AV) (m : Nat) (x : AV) : wV fs out j t h (.look ky z false (.k (.v (.one (.map m)))) (.k (.v x))) Q =
    onMap (h.o m) fun ky' kvs => reqP (ky' = ky ∧ ky.fits x = true) (Q (.v ((mfind kvs x).getD z)) h) := by
  rw [v_look]
  simp only [lv, opd_k]
  cases h.o m with
  | none => rfl
  | some y => cases y with
    | cells f ro e s cs => rfl
    | map k kvs => simp only [onMap, ← ite_req]; by_cases hb : k = ky ∧ ky.fits x = true <;> simp [hb] <;> cases mfind kvs x <;> simp
@[simp ↓] theorem x_lookok (ky : Key) (z : AV) (m : Nat) (x : AV) : wV fs out j t h (.look ky z true (.k (.v (.one (.map m)))) (.k (.v x))) Q =
    onMap (h.o m) fun ky' kvs => reqP (ky' = ky ∧ ky.fits x = true) (Q (.tup [(mfind kvs x).getD z, .one (.bool (mfind kvs x).isSome)]) h) := by
  rw [v_look]
  simp only [lv, opd_k]
  cases h.o m with
  | none => rfl
  | some y => cases y with
    | cells f ro e s cs => rfl
    | map k kvs => simp only [onMap, ← ite_req]; by_cases hb : k = ky ∧ ky.fits x = true <;> simp [hb] <;> cases mfind kvs x <;> simp
@[simp ↓] theorem x_lenm (m : Nat) : wV fs out j t h (.lenm (.k (.v (.one (.map m))))) Q = onMap (h.o m) fun _ kvs => Q (.v (.one (.int .i64 kvs.length))) h := by
  rw [v_lenm]
  simp only [lv, opd_k]
  cases h.o m with
  | none => rfl
  | some y => cases y <;> rfl
@[simp ↓] theorem x_mupd (ky : Key) (m : Nat) (x v : AV) : wV fs out j t h (.mupd ky (.k (.v (.one (.map m)))) (.k (.v x)) (.k (.v v))) Q =
    onMap (h.o m) fun ky' kvs => reqP (ky' = ky ∧ ky.fits x = true ∧ solid v.cells = true) (Q (.tup []) ⟨upd h.o m (some (.map ky (mput kvs x v))), h.nx⟩) := by
  rw [v_mupd]
  simp only [sv, opd_k]
  cases h.o m with
  | none => rfl
  | some y => cases y with
    | cells f ro e s cs => rfl
    | map k kvs => simp only [onMap, ← ite_req]; by_cases hb : k = ky ∧ ky.fits x = true ∧ solid v.cells = true <;> simp [hb]
@[simp ↓] theorem x_call (f : Nat) (l : List Opd) : wV fs out j t h (.call f l) Q = wF fs out f (evs t l) h Q := v_call f l
end

end Go.Am
