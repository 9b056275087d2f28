/- Each operation of the abstract machine is what the model does. Conditions: as each theorem says. -/
import Derived.Test.YthoicdnlcnppgaaAmRel
set_option linter.unusedVariables false
set_option linter.unusedSimpArgs false
namespace Go.Am
open Go.RowKit
/-! ### From the model's operations to these -/
def opd : Operand → Option Opd
  | .tmp n => some (.t n)
  | .const v => some (.k (cst v))
  | _ => none
def opds : List Operand → Option (List Opd)
  | [] => some []
  | x :: xs => (opd x).bind fun y => (opds xs).map fun ys => y :: ys
def opdo : Option Operand → Option (Option Opd)
  | none => some none
  | some x => (opd x).map some
def szP (P : Program) (t : TypeId) : Option Nat := (P.info? t).map (·.size)
def solidCells (v : Value) : Option (List Cell) := if solid (v.cells.toList.map cellOf) = true then some (v.cells.toList.map cellOf) else none
def zeroP (P : Program) (t : TypeId) : Option (List Cell) := (P.info? t).bind fun i => i.zero.bind solidCells
def aggP (P : Program) (t : TypeId) : Option Bool :=
  match P.underlying t with
  | some (.struct _) => some true
  | some (.array _ _) => some true
  | some _ => some false
  | none => none
/-- A load's or a lookup's width. -/
def widthP (P : Program) (t : TypeId) : Option (Option Nat) := (aggP P t).bind fun b => if b then (szP P t).map some else some none
def partsP (place : Nat → Option (Nat × Nat)) : List (Nat × Operand) → Option (List (Nat × Nat × Opd))
  | [] => some []
  | (i, x) :: rest => (place i).bind fun q => (opd x).bind fun y => (partsP place rest).map fun ys => (q.1, q.2, y) :: ys
def fieldP (P : Program) (fs : Array Field) (i : Nat) : Option (Nat × Nat) := (fs[i]?).bind fun f => (szP P f.type).map fun n => (f.offset, n)
def keyP (P : Program) (t : TypeId) : Option Key :=
  match P.underlying t with
  | some (.int k) => some (.int k)
  | _ => none
def zeroAV (P : Program) (t : TypeId) : Option AV :=
  (P.info? t).bind fun i => i.zero.bind fun z => match z with
    | .agg cs => (solidCells (.agg cs)).map .agg
    | .tuple _ => none
    | v => if cellOf v = .junk then none else some (.one (cellOf v))
/-- The shape of a struct of whole numbers and truths, from cell k on. -/
def flatF (P : Program) : Nat → List Field → Option (List Bool)
  | _, [] => some []
  | k, f :: fs => if (f.name == "_") = false ∧ f.offset = k then match P.underlying f.type with
      | some (.int _) => (flatF P (k + 1) fs).map fun l => true :: l
      | some .bool => (flatF P (k + 1) fs).map fun l => false :: l
      | _ => none
    else none
def resolveOp (P : Program) : Op → Option AOp
  | .move x => (opd x).map .mov
  | .assign x => (opd x).map .mov
  | .pick c a b => (opd c).bind fun c => (opd a).bind fun a => (opd b).map fun b => .pick c a b
  | .binOp op t x y _ => (opd x).bind fun x' => match P.underlying t with
    | some (.int _) => (opd y).map fun y' => .bin op x' y'
    | some .bool => (opd y).bind fun y' => match op with
      | .eql => some (.eqb false x' y')
      | .neq => some (.eqb true x' y')
      | _ => none
    | some (.pointer _) => match op, y with
      | .eql, .const (.pointer none) => some (.eqp false x')
      | .neq, .const (.pointer none) => some (.eqp true x')
      | _, _ => none
    | some (.struct fs) => if P.stoodInHeld t = false ∧ P.eqGuardType P.depth t = false then
        (flatF P 0 fs.toList).bind fun sh => (opd y).bind fun y' => match op with
          | .eql => some (.eqs false sh x' y')
          | .neq => some (.eqs true sh x' y')
          | _ => none
      else none
    | _ => none
  | .unOp op _ x => match op with
    | .not => (opd x).map .not
    | _ => none
  | .convert src dst x => (P.underlying src).bind fun _ => match P.underlying dst with
    | some (.int k) => (opd x).map (.conv k)
    | _ => none
  | .nilCheck x => (opd x).map .nilchk
  | .fieldAddr t x f => match P.underlying t with
    | some (.struct fs) => (fieldP P fs f).bind fun q => if q.2 = 0 then none else (opd x).map (.fadr q.1)
    | _ => none
  | .indexAddr t x i => match P.underlying t with
    | some (.slice e) => (szP P e).bind fun n => (opd x).bind fun x => (opd i).map fun i => .iadr n x i
    | some (.array l e) => (szP P e).bind fun n => (opd x).bind fun x => (opd i).map fun i => .iadrA l n x i
    | _ => none
  | .extract x i => (opd x).map (.ext i)
  | .slice t x lo hi mx => match mx with
    | some _ => none
    | none => match P.underlying t with
      | some (.slice e) => (szP P e).bind fun n => if 0 < n then (opd x).bind fun x => (opdo lo).bind fun lo => (opdo hi).map fun hi => .slc n x lo hi else none
      | _ => none
  | .build t parts => match P.underlying t with
    | some (.struct fs) => (zeroP P t).bind fun z => (partsP (fieldP P fs) parts.toList).bind fun ps => if (fs.all fun f => (szP P f.type).isSome) then some (.build z ps) else none
    | some (.array _ e) => (zeroP P t).bind fun z => (szP P e).bind fun n => (partsP (fun i => some (i * n, n)) parts.toList).map fun ps => .build z ps
    | _ => none
  | .load t x => (widthP P t).bind fun n => (opd x).map (.load n)
  | .lookup t m k ok => match P.underlying t with
    | some (.map kt et) => (keyP P kt).bind fun ky => (zeroAV P et).bind fun z => (opd m).bind fun m => (opd k).map fun k => .look ky z ok m k
    | _ => none
  | .alloc t => (zeroP P t).map (.new t)
  | .box t x => (szP P t).bind fun n => (opd x).map (.box t n)
  | .makeSlice t l c => match P.underlying t with
    | some (.slice e) => (P.info? e).bind fun i => (zeroP P e).bind fun z => if z.length = i.size ∧ 0 < i.size then (opd l).bind fun l => (opd c).map fun c => .mks e i.size i.bytes z l c else none
    | _ => none
  | .buildSlice t len parts => match P.underlying t with
    | some (.slice e) => (szP P e).bind fun n => (zeroP P e).bind fun z => (partsP (fun i => some (i * n, n)) parts.toList).bind fun ps => if z.length = n ∧ 0 < n ∧ len * n ≤ 16777216 then some (.bsl e n len z ps) else none
    | _ => none
  | .makeMap t r => match r, P.underlying t with
    | none, some (.map kt _) => (keyP P kt).map .mkm
    | _, _ => none
  | .store t x y => (szP P t).bind fun n => (opd x).bind fun x => (opd y).map fun y => .store n x y
  | .mapUpdate t m k v => match P.underlying t with
    | some (.map kt _) => (keyP P kt).bind fun ky => (opd m).bind fun m => (opd k).bind fun k => (opd v).map fun v => .mupd ky m k v
    | _ => none
  | .call c => match c.callee with
    | .value (.func f) => (opds c.args.toList).map (.call f)
    | .builtin .len => match c.args.toList, c.argTypes.toList with
      | [x], [t] => match P.underlying t with
        | some (.slice _) => (opd x).map .len
        | some (.map _ _) => (opd x).map .lenm
        | _ => none
      | _, _ => none
    | .builtin .max => match c.args.toList with
      | [x, y] => (opd x).bind fun x => (opd y).map fun y => .max2 x y
      | _ => none
    | .builtin .append => match c.args.toList, c.argTypes.toList with
      | [s, x], [t, t'] => if t = t' then match P.underlying t with
        | some (.slice e) => (P.info? e).bind fun i => (zeroP P e).bind fun z => if z.length = i.size ∧ 0 < i.size then (opd s).bind fun s => (opd x).map fun x => .app e i.size i.bytes s x else none
        | _ => none
        else none
      | _, _ => none
    | .builtin .copy => match c.args.toList, c.argTypes.toList with
      | [d, s], [t, _] => match P.underlying t with
        | some (.slice e) => (szP P e).bind fun n => if 0 < n then (opd d).bind fun d => (opd s).map fun s => .cpy n d s else none
        | _ => none
      | _, _ => none
    | _ => none
  | _ => none

theorem cellOf_rel (E : Env) (v : Value) : crel E (cellOf v) v := by
  unfold cellOf
  split <;> first | rfl | trivial
theorem cst_rel (E : Env) (v : Value) : trel E (cst v) v := by
  unfold cst
  split
  · rename_i vs
    split
    · rename_i h
      exact ⟨vs, rfl, by have : vs = #[] := Array.eq_empty_of_size_eq_zero h
                         subst this; exact lrel.nil⟩
    · trivial
  · exact cellOf_rel E _
/-- The temporaries tell what the model's hold. -/
def TRel (E : Env) (ρ : Nat → T) (a : Act) : Prop := ∀ n, trel E (ρ n) (a.tmps.getD n undef)
theorem opd_rel {E : Env} {ρ : Nat → T} {a : Act} (h : TRel E ρ a) {x : Operand} {y : Opd} (hx : opd x = some y) : trel E (y.ev ρ) (a.eval x) := by
  cases x with
  | tmp n => simp [opd] at hx; subst hx; exact h n
  | const v => simp [opd] at hx; subst hx; exact cst_rel E v
  | global g => simp [opd] at hx
  | func f => simp [opd] at hx
theorem opd_int {E : Env} {ρ : Nat → T} {a : Act} (h : TRel E ρ a) {x : Operand} {y : Opd} (hx : opd x = some y) {k : IntKind} {n : Int} (hy : y.ev ρ = .v (.one (.int k n))) : a.eval x = .int k n := by
  have := opd_rel h hx
  rw [hy] at this
  exact this
theorem opd_bool {E : Env} {ρ : Nat → T} {a : Act} (h : TRel E ρ a) {x : Operand} {y : Opd} (hx : opd x = some y) {b : Bool} (hy : y.ev ρ = .v (.one (.bool b))) : a.eval x = .bool b := by
  have := opd_rel h hx
  rw [hy] at this
  exact this
theorem opd_nilp {E : Env} {ρ : Nat → T} {a : Act} (h : TRel E ρ a) {x : Operand} {y : Opd} (hx : opd x = some y) (hy : y.ev ρ = .v (.one .nilp)) : a.eval x = .pointer none := by
  have := opd_rel h hx
  rw [hy] at this
  exact this
theorem opd_nils {E : Env} {ρ : Nat → T} {a : Act} (h : TRel E ρ a) {x : Operand} {y : Opd} (hx : opd x = some y) (hy : y.ev ρ = .v (.one .nils)) : a.eval x = .slice none 0 0 := by
  have := opd_rel h hx
  rw [hy] at this
  exact this
theorem opd_ptr {E : Env} {ρ : Nat → T} {a : Act} (h : TRel E ρ a) {x : Operand} {y : Opd} (hx : opd x = some y) {j off : Nat} (hy : y.ev ρ = .v (.one (.ptr j off))) : ∃ p, E j = some p ∧ a.eval x = .pointer (some (p.1.add off)) := by
  have := opd_rel h hx
  rw [hy] at this
  exact this
theorem add_add (a : Addr) (n m : Nat) : (a.add n).add m = a.add (n + m) := by
  unfold Addr.add
  by_cases h1 : n = 0
  · subst h1; simp
  · by_cases h2 : m = 0
    · subst h2; simp [h1]
    · have : n + m ≠ 0 := by omega
      simp [h1, h2, Nat.add_assoc]

end Go.Am
