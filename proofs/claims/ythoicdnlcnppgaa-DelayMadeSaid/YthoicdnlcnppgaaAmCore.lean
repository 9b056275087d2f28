/- An abstract machine for a part of the model's code: plain definitions. Conditions: none. -/
import Derived.Maps.AppendAt
import Derived.MapKept
import Derived.Laws.MakeOwn
import Derived.Laws.CopyRow
import Derived.Orders
import Derived.LoopN
import Derived.Below
import Derived.KernelRfl
import Derived.IntWalk
import Derived.Laws.StructEq
set_option linter.unusedVariables false
set_option linter.unusedSimpArgs false
namespace Go.Am

/-! An abstract machine for the part of the model's code that these seats use: heap objects with numbers, no capacities, no tape. -/
inductive Cell where
  | junk
  | int (k : IntKind) (n : Int)
  | bool (b : Bool)
  | ptr (j off : Nat)
  | nilp
  | slice (j off len : Nat)
  | nils
  | map (j : Nat)
  | nilm
  deriving DecidableEq, Inhabited
inductive AV where
  | one (c : Cell)
  | agg (cs : List Cell)
  deriving DecidableEq, Inhabited
def AV.cells : AV → List Cell
  | .one c => [c]
  | .agg cs => cs
inductive T where
  | v (x : AV)
  | tup (xs : List AV)
  deriving Inhabited
abbrev T.junk : T := .v (.one .junk)
/-- The keys of a map: whole numbers of a kind, or rows of n of them. -/
inductive Key where
  | int (k : IntKind)
  | row (n : Nat)
  deriving DecidableEq
def Key.fits : Key → AV → Bool
  | .int k, .one (.int k' _) => k == k'
  | .row n, .agg cs => cs.length == n && cs.all fun c => match c with | .int .i64 _ => true | _ => false
  | _, _ => false
inductive AObj where
  | cells (fam : Nat) (ro : Bool) (ety esz : Nat) (cs : List Cell)
  | map (key : Key) (kvs : List (AV × AV))
structure AH where
  o : Nat → Option AObj
  nx : Nat
structure St where
  t : Nat → T
  h : AH

def upd {α : Type} (f : Nat → α) (i : Nat) (x : α) : Nat → α := fun j => if j = i then x else f j
def AH.set (h : AH) (j : Nat) (x : AObj) : AH := { h with o := upd h.o j (some x) }

/-! ### Operands -/
def cellOf : Value → Cell
  | .int k n => .int k n
  | .bool b => .bool b
  | .pointer none => .nilp
  | .slice none 0 0 => .nils
  | .map none => .nilm
  | _ => .junk
def cst : Value → T
  | .tuple vs => if vs.size = 0 then .tup [] else .junk
  | v => .v (.one (cellOf v))
inductive Opd where
  | t (n : Nat)
  | k (c : T)
def Opd.ev (ρ : Nat → T) : Opd → T
  | .t n => ρ n
  | .k c => c

/-! ### Operations, resolved -/
inductive AOp where
  | mov (x : Opd)
  | pick (c a b : Opd)
  | bin (op : BinOp) (x y : Opd)
  | eqb (neq : Bool) (x y : Opd)
  | eqp (neq : Bool) (x : Opd)
  | eqs (neq : Bool) (shape : List Bool) (x y : Opd)
  | not (x : Opd)
  | conv (k : IntKind) (x : Opd)
  | nilchk (x : Opd)
  | fadr (off : Nat) (x : Opd)
  | iadr (esz : Nat) (x i : Opd)
  | iadrA (n esz : Nat) (x i : Opd)
  | ext (i : Nat) (x : Opd)
  | len (x : Opd)
  | slc (esz : Nat) (x : Opd) (lo hi : Option Opd)
  | slcA (n esz : Nat) (x : Opd) (lo hi : Option Opd)
  | build (zero : List Cell) (parts : List (Nat × Nat × Opd))
  | max2 (x y : Opd)
  | load (n : Option Nat) (x : Opd)
  | look (key : Key) (zero : AV) (ok : Bool) (m k : Opd)
  | lenm (m : Opd)
  | new (ety : Nat) (cs : List Cell)
  | box (ety : Nat) (n : Nat) (x : Opd)
  | mks (ety esz bytes : Nat) (zero : List Cell) (n : Opd) (c : Opd)
  | bsl (ety esz len : Nat) (zero : List Cell) (parts : List (Nat × Nat × Opd))
  | mkm (key : Key)
  | app (ety esz bytes : Nat) (s x : Opd)
  | store (n : Nat) (x y : Opd)
  | mupd (key : Key) (m k v : Opd)
  | cpy (esz : Nat) (d s : Opd)
  | call (f : Nat) (args : List Opd)
structure AOper where
  dst : Option Nat
  op : AOp
  guard : Option (Nat × Bool)

def one? : T → Option Cell
  | .v (.one c) => some c
  | _ => none
def av? : T → Option AV
  | .v x => some x
  | _ => none
def binI (op : BinOp) (k : IntKind) (x y : Int) : Option Cell :=
  match op with
  | .add => some (.int k (k.wrap (x + y)))
  | .sub => some (.int k (k.wrap (x - y)))
  | .mul => some (.int k (k.wrap (x * y)))
  | .quo => if y = 0 then none else some (.int k (k.wrap (x.tdiv y)))
  | .rem => if y = 0 then none else some (.int k (x.tmod y))
  | .eql => some (.bool (x == y))
  | .neq => some (.bool (x != y))
  | .lss => some (.bool (decide (x < y)))
  | .leq => some (.bool (decide (x ≤ y)))
  | .gtr => some (.bool (decide (x > y)))
  | .geq => some (.bool (decide (x ≥ y)))
  | _ => none
/-- A bound of a slice expression. -/
def bnd (ρ : Nat → T) (d : Nat) : Option Opd → Option Int
  | none => some d
  | some x => match x.ev ρ with
    | .v (.one (.int _ n)) => some n
    | _ => none
def setAt (l : List Cell) (off : Nat) (xs : List Cell) : List Cell := l.take off ++ xs ++ l.drop (off + xs.length)
def solid (l : List Cell) : Bool := l.all fun c => c != .junk
def fillA (ρ : Nat → T) : List Cell → List (Nat × Nat × Opd) → Option (List Cell)
  | cs, [] => some cs
  | cs, (off, n, x) :: rest => match x.ev ρ with
    | .v a => if a.cells.length = n ∧ off + n ≤ cs.length ∧ solid a.cells = true then fillA ρ (setAt cs off a.cells) rest else none
    | _ => none
def reps (zero : List Cell) : Nat → List Cell
  | 0 => []
  | n + 1 => zero ++ reps zero n

/-- Rows of whole numbers (true) and truths (false), compared. -/
def eqc : List Bool → List Cell → List Cell → Option Bool
  | [], [], [] => some true
  | true :: sh, .int k a :: cs, .int k' b :: ds => if k = k' then (eqc sh cs ds).map fun r => (a == b) && r else none
  | false :: sh, .bool a :: cs, .bool b :: ds => (eqc sh cs ds).map fun r => (a == b) && r
  | _, _, _ => none
/-- What does not look at the heap. -/
def pv (ρ : Nat → T) : AOp → Option T
  | .mov x => some (x.ev ρ)
  | .pick c a b => match c.ev ρ with
    | .v (.one (.bool q)) => some (if q then a.ev ρ else b.ev ρ)
    | _ => none
  | .bin op x y => match x.ev ρ, y.ev ρ with
    | .v (.one (.int k a)), .v (.one (.int k' b)) => if k = k' then (binI op k a b).map fun c => .v (.one c) else none
    | _, _ => none
  | .eqb neq x y => match x.ev ρ, y.ev ρ with
    | .v (.one (.bool a)), .v (.one (.bool b)) => some (.v (.one (.bool (if neq then !(a == b) else a == b))))
    | _, _ => none
  | .eqp neq x => match x.ev ρ with
    | .v (.one (.ptr _ _)) => some (.v (.one (.bool neq)))
    | .v (.one .nilp) => some (.v (.one (.bool (!neq))))
    | _ => none
  | .eqs neq sh x y => match x.ev ρ, y.ev ρ with
    | .v (.agg cs), .v (.agg ds) => (eqc sh cs ds).map fun r => .v (.one (.bool (if neq then !r else r)))
    | _, _ => none
  | .not x => match x.ev ρ with
    | .v (.one (.bool a)) => some (.v (.one (.bool (!a))))
    | _ => none
  | .conv k x => match x.ev ρ with
    | .v (.one (.int _ n)) => some (.v (.one (.int k (k.wrap n))))
    | _ => none
  | .nilchk x => match x.ev ρ with
    | .v (.one (.ptr j off)) => some (.v (.one (.ptr j off)))
    | _ => none
  | .fadr off x => match x.ev ρ with
    | .v (.one (.ptr j o)) => some (.v (.one (.ptr j (o + off))))
    | _ => none
  | .iadr esz x i => match x.ev ρ, i.ev ρ with
    | .v (.one (.slice j o n)), .v (.one (.int _ i)) => if 0 ≤ i ∧ i < n then some (.v (.one (.ptr j (o + i.toNat * esz)))) else none
    | _, _ => none
  | .iadrA n esz x i => match x.ev ρ, i.ev ρ with
    | .v (.one (.ptr j o)), .v (.one (.int _ i)) => if 0 ≤ i ∧ i < n then some (.v (.one (.ptr j (o + i.toNat * esz)))) else none
    | _, _ => none
  | .ext i x => match x.ev ρ with
    | .tup xs => (xs[i]?).map .v
    | _ => none
  | .len x => match x.ev ρ with
    | .v (.one (.slice _ _ n)) => some (.v (.one (.int .i64 n)))
    | .v (.one .nils) => some (.v (.one (.int .i64 0)))
    | _ => none
  | .slc esz x lo hi => match x.ev ρ with
    | .v (.one (.slice j o n)) => (bnd ρ 0 lo).bind fun l => (bnd ρ n hi).bind fun h =>
      if 0 ≤ l ∧ l ≤ h ∧ h ≤ n then some (.v (.one (.slice j (o + l.toNat * esz) (h.toNat - l.toNat)))) else none
    | .v (.one .nils) => (bnd ρ 0 lo).bind fun l => (bnd ρ 0 hi).bind fun h => if l = 0 ∧ h = 0 then some (.v (.one .nils)) else none
    | _ => none
  | .slcA n esz x lo hi => match x.ev ρ with
    | .v (.one (.ptr j o)) => (bnd ρ 0 lo).bind fun l => (bnd ρ n hi).bind fun h =>
      if l = 0 ∧ h = n ∧ o = 0 then some (.v (.one (.slice j o n))) else none
    | _ => none
  | .build zero parts => (fillA ρ zero parts).map fun cs => .v (.agg cs)
  | .max2 x y => match x.ev ρ, y.ev ρ with
    | .v (.one (.int k a)), .v (.one (.int _ b)) => some (.v (.one (.int k (if b > a then b else a))))
    | _, _ => none
  | _ => none
/-- Cells at an address. -/
def rdCells (h : AH) (j off n : Nat) : Option (List Cell) :=
  match h.o j with
  | some (.cells _ _ _ _ cs) => if off + n ≤ cs.length then some ((cs.drop off).take n) else none
  | _ => none
def ldv (h : AH) (n : Option Nat) (j off : Nat) : Option AV :=
  match n with
  | none => (rdCells h j off 1).bind fun l => match l with
    | [c] => some (.one c)
    | _ => none
  | some n => (rdCells h j off n).map .agg
def mfind (kvs : List (AV × AV)) (k : AV) : Option AV := (kvs.find? fun p => p.1 = k).map (·.2)
def mput : List (AV × AV) → AV → AV → List (AV × AV)
  | [], k, v => [(k, v)]
  | (k', v') :: rest, k, v => if k' = k then (k', v) :: rest else (k', v') :: mput rest k v
/-- What only looks at the heap. -/
def lv (ρ : Nat → T) (h : AH) : AOp → Option T
  | .load n x => match x.ev ρ with
    | .v (.one (.ptr j off)) => (ldv h n j off).map .v
    | _ => none
  | .look ky zero ok m k => match m.ev ρ, k.ev ρ with
    | .v (.one (.map j)), .v key => match h.o j with
      | some (.map ky' kvs) => if ky' = ky ∧ ky.fits key = true then
          match mfind kvs key with
          | some x => some (if ok then .tup [x, .one (.bool true)] else .v x)
          | none => some (if ok then .tup [zero, .one (.bool false)] else .v zero)
        else none
      | _ => none
    | _, _ => none
  | .lenm m => match m.ev ρ with
    | .v (.one (.map j)) => match h.o j with
      | some (.map _ kvs) => some (.v (.one (.int .i64 kvs.length)))
      | _ => none
    | _ => none
  | _ => none
/-- What lays a new object number j. -/
def nv (ρ : Nat → T) (j : Nat) : AOp → Option (T × AObj)
  | .new e cs => some (.v (.one (.ptr j 0)), .cells j false e 0 cs)
  | .box e n x => match x.ev ρ with
    | .v a => if a.cells.length = n ∧ solid a.cells = true then some (.v (.one (.ptr j 0)), .cells j false e 0 a.cells) else none
    | _ => none
  | .mks e esz bytes zero n c => match n.ev ρ, c.ev ρ with
    | .v (.one (.int .i64 n)), .v (.one (.int .i64 c)) => if n = c ∧ 0 ≤ n ∧ n * bytes ≤ 140737488355328 ∧ n ≤ 9223372036854775807 then some (.v (.one (.slice j 0 n.toNat)), .cells j false e esz (reps zero n.toNat)) else none
    | _, _ => none
  | .bsl e esz len zero parts => (fillA ρ (reps zero len) parts).map fun cs => (.v (.one (.slice j 0 len)), .cells j false e esz cs)
  | .mkm ky => some (.v (.one (.map j)), .map ky [])
  | _ => none
/-- Of a family, what is longer than n cells is given up (but object j). -/
def kill (f n : Nat) (o : Nat → Option AObj) : Nat → Option AObj := fun j =>
  match o j with
  | some (.cells f' ro e s cs) => if f' = f ∧ ro = false ∧ n < cs.length ∧ f ≤ j then none else some (.cells f' ro e s cs)
  | x => x
/-- Of a family, all but object j is given up. -/
def killBut (f j0 : Nat) (o : Nat → Option AObj) : Nat → Option AObj := fun j =>
  match o j with
  | some (.cells f' ro e s cs) => if f' = f ∧ ro = false ∧ j ≠ j0 ∧ f ≤ j then none else some (.cells f' ro e s cs)
  | x => x
/-- An object of element size 0 is alone in its block. -/
def killIf (esz f j0 : Nat) (o : Nat → Option AObj) : Nat → Option AObj := if esz = 0 then o else killBut f j0 o
def srcCells (h : AH) (esz : Nat) : Cell → Option (Nat × List Cell)
  | .nils => some (0, [])
  | .slice j off n => (rdCells h j off (n * esz)).map fun l => (n, l)
  | _ => none
/-- append; the new object's number is j. -/
def apv (ρ : Nat → T) (h : AH) (j : Nat) : AOp → Option (T × AH)
  | .app e esz bytes s x => match s.ev ρ, x.ev ρ with
    | .v (.one s), .v (.one x) => (srcCells h esz x).bind fun (m, news) =>
      if solid news = true then
        match s with
        | .nils => if m = 0 then some (.v (.one .nils), h)
            else if 0 < esz ∧ m * bytes ≤ 140737488355328 ∧ m ≤ 9223372036854775807 then some (.v (.one (.slice j 0 m)), h.set j (.cells j false e esz news)) else none
        | .slice i off n => match h.o i with
          | some (.cells f ro e' esz' cs) =>
            if ro = false ∧ e' = e ∧ esz' = esz ∧ 0 < esz ∧ off = 0 ∧ n * esz ≤ cs.length ∧ (n + m) * bytes ≤ 140737488355328 ∧ n + m ≤ 9223372036854775807 ∧ solid (cs.take (n * esz)) = true ∧ f ≤ j then
              some (.v (.one (.slice j 0 (n + m))), { h with o := upd (kill f (n * esz) h.o) j (some (.cells f false e esz (cs.take (n * esz) ++ news))) })
            else none
          | _ => none
        | _ => none
      else none
    | _, _ => none
  | _ => none
/-- What writes. -/
def sv (ρ : Nat → T) (h : AH) : AOp → Option (T × AH)
  | .store n x y => match x.ev ρ, y.ev ρ with
    | .v (.one (.ptr j off)), .v a => match h.o j with
      | some (.cells f ro e esz cs) =>
        if ro = false ∧ a.cells.length = n ∧ off + n ≤ cs.length ∧ solid a.cells = true then
          some (.tup [], { h with o := upd (killIf esz f j h.o) j (some (.cells f false e esz (setAt cs off a.cells))) })
        else none
      | _ => none
    | _, _ => none
  | .mupd ky m k v => match m.ev ρ, k.ev ρ, v.ev ρ with
    | .v (.one (.map j)), .v key, .v x => match h.o j with
      | some (.map ky' kvs) => if ky' = ky ∧ ky.fits key = true ∧ solid x.cells = true then some (.tup [], h.set j (.map ky (mput kvs key x))) else none
      | _ => none
    | _, _, _ => none
  | .cpy esz d s => match d.ev ρ, s.ev ρ with
    | .v (.one (.slice j off n)), .v (.one s) => (srcCells h esz s).bind fun (m, news) =>
      match h.o j with
      | some (.cells f ro e esz' cs) =>
        if ro = false ∧ m ≤ n ∧ solid news = true ∧ off + news.length ≤ cs.length then
          some (.v (.one (.int .i64 m)), { h with o := upd (killIf esz' f j h.o) j (some (.cells f false e esz' (setAt cs off news))) })
        else none
      | _ => none
    | _, _ => none
  | _ => none

/-! ### Steps, regions, code -/
abbrev Rec := Nat → List T → AH → Option (T × AH)
def St.put (s : St) (d : Option Nat) (x : T) : St :=
  match d with
  | some d => { s with t := upd s.t d x }
  | none => s
inductive Cls where
  | a | l | n | p | s | c
  deriving DecidableEq
def AOp.cls : AOp → Cls
  | .load .. | .look .. | .lenm .. => .l
  | .new .. | .box .. | .mks .. | .bsl .. | .mkm .. => .n
  | .app .. => .p
  | .store .. | .mupd .. | .cpy .. => .s
  | .call .. => .c
  | _ => .a
/-- One operation, carried out; new objects get the number j. -/
def opv (rec : Rec) (j : Nat) (s : St) (op : AOp) : Option (T × AH) :=
  match op.cls with
  | .a => (pv s.t op).map fun x => (x, s.h)
  | .l => (lv s.t s.h op).map fun x => (x, s.h)
  | .n => (nv s.t j op).map fun (x, o) => (x, s.h.set j o)
  | .p => apv s.t s.h j op
  | .s => sv s.t s.h op
  | .c => match op with
    | .call f args => rec f (args.map fun x => x.ev s.t) s.h
    | _ => none
def wants (ρ : Nat → T) : Option (Nat × Bool) → Option Bool
  | none => some true
  | some (d, q) => match ρ d with
    | .v (.one (.bool b)) => some (b == q)
    | .tup [] => some false
    | _ => none
def ostep (rec : Rec) (j : Nat) (o : AOper) (s : St) : Option St :=
  match wants s.t o.guard with
  | some true => (opv rec j s o.op).map fun (x, h) => ({ s with h := h } : St).put o.dst x
  | some false => some (s.put o.dst (.tup []))
  | none => none
/-- A load that came up before an operation that may come up before it: it reads the same behind it. -/
def sameV : T → Option T → Bool
  | .v y, some (.v x) => x = y
  | _, _ => false
def holdOk (s : St) (o : AOper) : Bool :=
  match wants s.t o.guard with
  | some true => match o.dst with
    | some d => sameV (s.t d) (lv s.t s.h o.op)
    | none => false
  | some false => true
  | none => false
inductive ACode where
  | skip
  | region (ops : List AOper) (order : List Nat) (holds : List (Nat × List Nat))
  | seq (a b : ACode)
  | cond (c : Opd) (a b : ACode) (keep : List Nat)
  | block (id : Nat) (a : ACode)
  | loop (keep : List Nat) (a : ACode)
  | exit (id : Nat)
  | ret
def holdsOf (holds : List (Nat × List Nat)) (i : Nat) : List Nat := ((holds.find? fun p => p.1 == i).map (·.2)).getD []
def runOps (rec : Rec) (ops : List AOper) (holds : List (Nat × List Nat)) (base : Nat) : List Nat → St → Option St
  | [], s => some s
  | i :: rest, s => match ops[i]? with
    | some o => (ostep rec (base + i) o s).bind fun s1 =>
      if (holdsOf holds i).all fun l => ((ops[l]?).map (holdOk s1)).getD false then runOps rec ops holds base rest s1 else none
    | none => none
inductive AExit where
  | normal
  | exit (id : Nat)
  | ret
  deriving DecidableEq
def keepOnly (keep : List Nat) (s : St) : St := { s with t := fun n => if keep.contains n then s.t n else .junk }
/-- Rounds of a loop: its end is an exit or a return out of it. -/
def rounds (body : St → Option (AExit × St)) (keep : List Nat) : Nat → St → Option (AExit × St)
  | 0, _ => none
  | k + 1, s => (body s).bind fun (e, s1) => match e with
    | .normal => rounds body keep k (keepOnly keep s1)
    | e => some (e, s1)
def exec (rec : Rec) (fuel : Nat) : ACode → St → Option (AExit × St)
  | .skip, s => some (.normal, s)
  | .region ops order holds, s => (runOps rec ops holds s.h.nx order { s with h := { s.h with nx := s.h.nx + ops.length } }).map fun s1 => (.normal, s1)
  | .seq a b, s => (exec rec fuel a s).bind fun (e, s1) => match e with
    | .normal => exec rec fuel b s1
    | e => some (e, s1)
  | .cond c a b keep, s => match c.ev s.t with
    | .v (.one (.bool q)) => (if q then exec rec fuel a s else exec rec fuel b s).map fun (e, s1) => (e, keepOnly keep s1)
    | _ => none
  | .block id a, s => (exec rec fuel a s).map fun (e, s1) => (if e = .exit id then .normal else e, s1)
  | .loop keep a, s => rounds (exec rec fuel a) keep fuel (keepOnly keep s)
  | .exit id, s => some (.exit id, s)
  | .ret, s => some (.ret, s)
structure AFunc where
  np : Nat
  res : List Nat
  cell : Option (Option Nat)
  body : ACode
def resv (ρ : Nat → T) : List Nat → Option T
  | [r] => some (ρ r)
  | rs => (rs.mapM fun r => av? (ρ r)).map .tup
/-- The result: out of temps, or out of a cell that a temp leads to. -/
def resc (s : St) : Option (Option Nat) → List Nat → Option T
  | none, rs => resv s.t rs
  | some n, [r] => match s.t r with
    | .v (.one (.ptr j off)) => (ldv s.h n j off).map .v
    | _ => none
  | some _, _ => none
def tmps0 (args : List T) : Nat → T := fun n => (args[n]?).getD (.tup [])
/-- A function called, with k levels left; what is not in the table is left to 'out'. -/
def acall (fs : Nat → Option AFunc) (out : Rec) : Nat → Rec
  | 0, _, _, _ => none
  | k + 1, f, args, h => match fs f with
    | some fn => if args.length = fn.np then
        (exec (acall fs out k) k fn.body { t := tmps0 args, h := h }).bind fun (e, s) =>
          if e = .normal ∨ e = .ret then (resc s fn.cell fn.res).map fun x => (x, s.h) else none
      else none
    | none => out f args h
def nothing : Rec := fun _ _ _ => none
/-- Functions without arguments of which it is known that they return a truth. -/
def closed (cl : Nat → Option Bool) : Rec := fun f args h => match args, cl f with
  | [], some b => some (.v (.one (.bool b)), h)
  | _, _ => none

end Go.Am
