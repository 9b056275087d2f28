/- From the model's code to the abstract machine's. Conditions: as each theorem says. -/
import Derived.Test.YthoicdnlcnppgaaAmEx
set_option linter.unusedVariables false
set_option linter.unusedSimpArgs false
namespace Go.Am
open Go.RowKit
/-! ### From the model's code -/
def resolveAll (P : Program) (N : Nat) (cops : Array Oper) : List Oper → Option (List AOper)
  | [] => some []
  | o :: rest => (resolveOper P N cops o).bind fun x => (resolveAll P N cops rest).map fun xs => x :: xs
theorem resolveAll_map {P : Program} {N : Nat} {cops : Array Oper} : ∀ (l : List Oper) (xs : List AOper), resolveAll P N cops l = some xs → l.map (resolveOper P N cops) = xs.map some
  | [], xs, h => by simp only [resolveAll, Option.some.injEq] at h; subst h; rfl
  | o :: l, xs, h => by
    simp only [resolveAll] at h
    obtain ⟨x, hx, h⟩ := Option.bind_eq_some_iff.1 h
    obtain ⟨ys, hys, rfl⟩ := Option.map_eq_some_iff.1 h
    simp [hx, resolveAll_map l ys hys]
/-- An order: what only reads first, then an append to nil, then whatever comes next. -/
def pick1 (cops : Array Oper) (ops : List AOper) (left : List Nat) : Option Nat :=
  let ready := left.filter fun i => (depsOf cops i).all fun e => !(left.contains e)
  match ready.find? (fun i => ((ops[i]?).map quietC).getD false) with
  | some i => some i
  | none => match ready.find? (fun i => ((ops[i]?).map fun o => onNil o.op).getD false) with
    | some i => some i
    | none => ready.head?
def canon (cops : Array Oper) (ops : List AOper) : Nat → List Nat → List Nat
  | 0, _ => []
  | n + 1, left => match pick1 cops ops left with
    | some i => i :: canon cops ops n (left.filter (· != i))
    | none => []
/-- The loads that something that writes may come before. -/
def holdsFor (tab : List Nat) (ops : List AOper) : List Nat → List Nat → List (Nat × List Nat)
  | _, [] => []
  | before, i :: rest =>
    let l := before.filter fun x => !(ancB tab x i) && ((ops[x]?).map fun o => o.op.cls == .l).getD false
    let more := holdsFor tab ops (before ++ [i]) rest
    if heldB ops i && !l.isEmpty then (i, l) :: more else more
abbrev Hint := List Nat × List (Nat × List Nat) × List Nat
def compile (P : Program) (N : Nat) : Code → List Hint → Option (ACode × List Hint)
  | .skip, ks => some (.skip, ks)
  | .region _ cops draw, ks => (resolveAll P N cops cops.toList).bind fun ops =>
    if draw then match ks with
      | [] => none
      | (π, holds, tab) :: ks => if P.follows .mixedOrders && regB cops tab ops holds π then some (.region ops π holds, ks) else none
    else some (.region ops (List.range cops.size) [], ks)
  | .seq a b, ks => (compile P N a ks).bind fun (x, ks1) => (compile P N b ks1).map fun (y, ks2) => (.seq x y, ks2)
  | .cond c a b, ks => (opd c).bind fun c' => match ks with
    | [] => none
    | (keep, _) :: ks => (compile P N a ks).bind fun (x, ks1) => (compile P N b ks1).map fun (y, ks2) => (.cond c' x y keep, ks2)
  | .block id a, ks => (compile P N a ks).map fun (x, ks1) => (.block id x, ks1)
  | .loop a, ks => match ks with
    | [] => none
    | (keep, _) :: ks => (compile P N a ks).map fun (x, ks1) => (.loop keep x, ks1)
  | .exit id, ks => some (.exit id, ks)
  | .ret, ks => some (.ret, ks)
  | _, _ => none
theorem compile_fits {P : Program} {N : Nat} : ∀ (c : Code) (ks : List Hint) (x : ACode) (ks' : List Hint), compile P N c ks = some (x, ks') → Fits P N c x := by
  intro c
  induction c with
  | skip => intro ks x ks' h; simp only [compile, Option.some.injEq, Prod.mk.injEq] at h; obtain ⟨rfl, _⟩ := h; exact .skip
  | region id cops draw =>
    intro ks x ks' h
    simp only [compile] at h
    obtain ⟨ops, hops, h⟩ := Option.bind_eq_some_iff.1 h
    have hm := resolveAll_map _ _ hops
    cases draw with
    | true =>
      simp only [if_true] at h
      split at h
      · cases h
      · split at h
        · rename_i hc
          simp only [Bool.and_eq_true] at hc
          simp only [Option.some.injEq, Prod.mk.injEq] at h
          obtain ⟨rfl, _⟩ := h
          exact .draw hc.1 hm hc.2
        · cases h
    | false =>
      simp only [Bool.false_eq_true, if_false, Option.some.injEq, Prod.mk.injEq] at h
      obtain ⟨rfl, _⟩ := h
      exact .text hm
  | seq a b iha ihb =>
    intro ks x ks' h
    simp only [compile] at h
    obtain ⟨⟨y, ks1⟩, h1, h⟩ := Option.bind_eq_some_iff.1 h
    obtain ⟨⟨z, ks2⟩, h2, h⟩ := Option.map_eq_some_iff.1 h
    simp only [Prod.mk.injEq] at h
    obtain ⟨rfl, _⟩ := h
    exact .seq (iha _ _ _ h1) (ihb _ _ _ h2)
  | cond c a b iha ihb =>
    intro ks x ks' h
    simp only [compile] at h
    obtain ⟨c', hc, h⟩ := Option.bind_eq_some_iff.1 h
    split at h
    · cases h
    · obtain ⟨⟨y, ks1⟩, h1, h⟩ := Option.bind_eq_some_iff.1 h
      obtain ⟨⟨z, ks2⟩, h2, h⟩ := Option.map_eq_some_iff.1 h
      simp only [Prod.mk.injEq] at h
      obtain ⟨rfl, _⟩ := h
      exact .cond hc (iha _ _ _ h1) (ihb _ _ _ h2)
  | block id a iha =>
    intro ks x ks' h
    simp only [compile] at h
    obtain ⟨⟨y, ks1⟩, h1, h⟩ := Option.map_eq_some_iff.1 h
    simp only [Prod.mk.injEq] at h
    obtain ⟨rfl, _⟩ := h
    exact .block (iha _ _ _ h1)
  | loop a iha =>
    intro ks x ks' h
    simp only [compile] at h
    split at h
    · cases h
    · obtain ⟨⟨y, ks1⟩, h1, h⟩ := Option.map_eq_some_iff.1 h
      simp only [Prod.mk.injEq] at h
      obtain ⟨rfl, _⟩ := h
      exact .loop (iha _ _ _ h1)
  | exit id => intro ks x ks' h; simp only [compile, Option.some.injEq, Prod.mk.injEq] at h; obtain ⟨rfl, _⟩ := h; exact .exit
  | ret => intro ks x ks' h; simp only [compile, Option.some.injEq, Prod.mk.injEq] at h; obtain ⟨rfl, _⟩ := h; exact .ret
  | _ => intro ks x ks' h; simp [compile] at h
def tell (P : Program) (g : Func) (ks : List Hint) : Option AFunc :=
  match g.body with
  | some c => if (g.name == "runtime.NumGoroutine") = false ∧ g.params.size ≤ g.ntmps then
      (resQ P g.results.toList).bind fun rs => (compile P g.ntmps c ks).map fun (x, _) => { np := g.params.size, res := rs.1, cell := rs.2, body := x }
    else none
  | none => none
theorem tell_ok {P : Program} {f : Nat} {g : Func} {ks : List Hint} {fn : AFunc} (hg : P.funcs[f]? = some g) (h : tell P g ks = some fn) : FuncOk P f fn := by
  unfold tell at h
  split at h
  · rename_i c hb
    split at h
    · rename_i hn
      obtain ⟨rs, hrs, h⟩ := Option.bind_eq_some_iff.1 h
      obtain ⟨⟨x, ks'⟩, hx, rfl⟩ := Option.map_eq_some_iff.1 h
      exact ⟨g, c, hg, hb, hn.1, hrs, hn.2, compile_fits _ _ _ _ hx⟩
    · cases h
  · cases h
/-! ### From a run of the abstract machine to the model's -/
theorem h0_rel (w : World) : HRel w.heap.size w (fun _ => none) { o := fun _ => none, nx := 0 } w :=
  ⟨Below.refl _ _, Nat.le_refl _, (fun j o h => by cases h), (fun _ _ => rfl), (fun i j f e s cs f' e' s' cs' p q h => by cases h), (fun i j k kvs k' kvs' p q h => by cases h), (fun j f e s cs h => by cases h), (fun i j f e cs f' e' s' cs' p q h => by cases h)⟩
theorem calls_of {P : Program} {fs : Nat → Option AFunc} (hfs : ∀ f fn, fs f = some fn → FuncOk P f fn) {out : Rec} (hout : RecOk P out) {k f : Nat} {args : List T} {h : AH} {x : T × AH} (hrun : acall fs out k f args h = some x) {E : Env} {w : World} {vs : Array Value}
    (H : HRel w.heap.size w E h w) (hl : lrel (trel E) args vs.toList) {b : Bool} (hx : x.1 = .v (.one (.bool b))) : Calls P f vs w fun e w' => e = .returned (.bool b) ∧ Below w.heap.size w w' := by
  obtain ⟨r, h'⟩ := x
  have := (acall_ok hfs hout k).calls f args h r h' hrun w.heap.size w E w vs H hl
  refine this.mono ?_
  rintro e w' ⟨v, E', rfl, hE, _, H', hr⟩
  simp only at hx
  subst hx
  have : v = .bool b := hr
  rw [this]
  exact ⟨rfl, H'.below⟩

theorem closed_ok {P : Program} {fs : Nat → Option AFunc} (hfs : ∀ f fn, fs f = some fn → FuncOk P f fn) {out : Rec} (hout : RecOk P out) {cl : Nat → Option Bool}
    (hcl : ∀ f b, cl f = some b → ∃ k h', acall fs out k f [] { o := fun _ => none, nx := 0 } = some (.v (.one (.bool b)), h')) : RecOk P (closed cl) := by
  have open_ : ∀ f args h r h', closed cl f args h = some (r, h') → ∃ b, args = [] ∧ cl f = some b ∧ r = .v (.one (.bool b)) ∧ h' = h := by
    intro f args h r h' hc
    unfold closed at hc
    split at hc
    · rename_i b hb
      simp only [Option.some.injEq, Prod.mk.injEq] at hc
      exact ⟨b, rfl, hb, hc.1.symm, hc.2.symm⟩
    · cases hc
  refine ⟨fun f args h r h' hc => ?_, fun f args h x hc vs w => ?_, fun f args h r h' hc base w0 E w vs H hl => ?_⟩
  · obtain ⟨b, _, _, _, rfl⟩ := open_ f args h r h' hc
    exact ⟨Nat.le_refl _, fun _ _ h => h⟩
  · obtain ⟨r, h'⟩ := x
    obtain ⟨b, rfl, hb, _, _⟩ := open_ f args h r h' hc
    obtain ⟨k, h2, hk⟩ := hcl f b hb
    exact (acall_ok hfs hout k).enters f [] _ _ hk vs w
  · obtain ⟨b, rfl, hb, rfl, rfl⟩ := open_ f args h r h' hc
    obtain ⟨k, h2, hk⟩ := hcl f b hb
    refine (calls_of hfs hout hk (h0_rel w) (show lrel (trel _) [] vs.toList from ?_) rfl).mono ?_
    · have : vs.toList = [] := by
        have := hl.1
        exact List.eq_nil_of_length_eq_zero (by rw [← this]; rfl)
      rw [this]; exact lrel.nil
    · rintro e w' ⟨rfl, B⟩
      exact ⟨.bool b, E, rfl, Env.le_refl E, fun _ _ => rfl, hrel_below H B, rfl⟩

end Go.Am
