/-
  No cell of these rows narrows 'for every input' (looked for: loops, veiled, ifaces, maps, wideKeys, modest, calm, conditions, laid).
  DERIVED. THE GIVEN ROWS OF THIS SEAT. 9 by the template 'for every input the law returns true; each argument reads behind the call as it read before'; 0 by the template 'total and deterministic' (their statements: YtmflcoojlejafaaTotals.lean).
  GIVEN WITH THE SEED: the statements are not yours to turn. If you find one false, say at which input.
  Laid BY PROGRAM, IN A SANDBOX (cutbox-rows.mjs): the forced cells as the released guide's own fill.sh prints them over the translation 9d810f218ece68a2… (all of the seat's roots in one cut). By AI agents, Wed Nov 11 2026. No macro, syntax, notation, axiom, sorry.
-/
import Derived.Test.YtmflcoojlejafaaChecked
import GoSem.Claim
import GoSem.ClaimJoined
import GoSem.ClaimMapViews
import Derived.JoinedTies
import Derived.KernelRfl
namespace Go.Proofs.Ytmflcoojlejafaa
/- THE CELL 'sum', in the pinned program and in every row, IS THE sha256 OF THE DUMP (.gsa) THAT YtmflcoojlejafaaProg.lean LOADS. Nothing in Lean hashes anything: it is a label: what it is worth is what the hold of that sum in a sandbox is worth. -/
noncomputable def Try.pinned : Pinned := { name := "ytmflcoojlejafaa", sum := "9d810f218ece68a28a261bdf34e368e3e4d5a1f2b2a7bc928160789d26985228", checked := Try.checked }
namespace Rows
def none {H : Type} : Left H := { results := [], args := [] }

/-- 'railplanlaw29.YardPlan': WHATEVER THE INPUT: true; the input reads as it did. -/
def yardPlanSpec : ChangeSpec := { name := "yardPlan", fn := fun _ => fun
  | [d1, d2] => { results := [.lit (.bool true)], args := [d1, d2] }
  | _ => none }
def yardPlanRow : OpenClaim := { program := "ytmflcoojlejafaa", sum := "9d810f218ece68a28a261bdf34e368e3e4d5a1f2b2a7bc928160789d26985228", func := "railplan/railplanlaw29.YardPlan", spec := "yardPlan", recurses := true, apart := false }
def YardPlanSaid : Prop := yardPlanRow.holds Try.pinned (OpenSpec.ofChange yardPlanSpec)

/-- ITS FALSE NEIGHBOUR: 'it returns false'. Refute it at one input. -/
def yardPlanWrong : ChangeSpec := { name := "yardPlan", fn := fun _ => fun
  | [d1, d2] => { results := [.lit (.bool false)], args := [d1, d2] }
  | _ => none }
def YardPlanWrongFalsely : Prop := yardPlanRow.holds Try.pinned (OpenSpec.ofChange yardPlanWrong)

/-- 'railplanlaw29.YardReplay': WHATEVER THE INPUT: true; the input reads as it did. -/
def yardReplaySpec : ChangeSpec := { name := "yardReplay", fn := fun _ => fun
  | [d1, d2, d3, d4] => { results := [.lit (.bool true)], args := [d1, d2, d3, d4] }
  | _ => none }
def yardReplayRow : OpenClaim := { program := "ytmflcoojlejafaa", sum := "9d810f218ece68a28a261bdf34e368e3e4d5a1f2b2a7bc928160789d26985228", func := "railplan/railplanlaw29.YardReplay", spec := "yardReplay", recurses := true, apart := false }
def YardReplaySaid : Prop := yardReplayRow.holds Try.pinned (OpenSpec.ofChange yardReplaySpec)

/-- ITS FALSE NEIGHBOUR: 'it returns false'. Refute it at one input. -/
def yardReplayWrong : ChangeSpec := { name := "yardReplay", fn := fun _ => fun
  | [d1, d2, d3, d4] => { results := [.lit (.bool false)], args := [d1, d2, d3, d4] }
  | _ => none }
def YardReplayWrongFalsely : Prop := yardReplayRow.holds Try.pinned (OpenSpec.ofChange yardReplayWrong)

/-- 'railplanlaw29.YardLeast': WHATEVER THE INPUT: true; the input reads as it did. -/
def yardLeastSpec : ChangeSpec := { name := "yardLeast", fn := fun _ => fun
  | [d] => { results := [.lit (.bool true)], args := [d] }
  | _ => none }
def yardLeastRow : OpenClaim := { program := "ytmflcoojlejafaa", sum := "9d810f218ece68a28a261bdf34e368e3e4d5a1f2b2a7bc928160789d26985228", func := "railplan/railplanlaw29.YardLeast", spec := "yardLeast", recurses := true, apart := false }
def YardLeastSaid : Prop := yardLeastRow.holds Try.pinned (OpenSpec.ofChange yardLeastSpec)

/-- ITS FALSE NEIGHBOUR: 'it returns false'. Refute it at one input. -/
def yardLeastWrong : ChangeSpec := { name := "yardLeast", fn := fun _ => fun
  | [d] => { results := [.lit (.bool false)], args := [d] }
  | _ => none }
def YardLeastWrongFalsely : Prop := yardLeastRow.holds Try.pinned (OpenSpec.ofChange yardLeastWrong)

/-- 'railplanlaw29.YardUnits': WHATEVER THE INPUT: true; the input reads as it did. -/
def yardUnitsSpec : ChangeSpec := { name := "yardUnits", fn := fun _ => fun
  | [d] => { results := [.lit (.bool true)], args := [d] }
  | _ => none }
def yardUnitsRow : OpenClaim := { program := "ytmflcoojlejafaa", sum := "9d810f218ece68a28a261bdf34e368e3e4d5a1f2b2a7bc928160789d26985228", func := "railplan/railplanlaw29.YardUnits", spec := "yardUnits", recurses := true, apart := false }
def YardUnitsSaid : Prop := yardUnitsRow.holds Try.pinned (OpenSpec.ofChange yardUnitsSpec)

/-- ITS FALSE NEIGHBOUR: 'it returns false'. Refute it at one input. -/
def yardUnitsWrong : ChangeSpec := { name := "yardUnits", fn := fun _ => fun
  | [d] => { results := [.lit (.bool false)], args := [d] }
  | _ => none }
def YardUnitsWrongFalsely : Prop := yardUnitsRow.holds Try.pinned (OpenSpec.ofChange yardUnitsWrong)

/-- 'railplanlaw29.YardLonger': WHATEVER THE INPUT: true; the input reads as it did. -/
def yardLongerSpec : ChangeSpec := { name := "yardLonger", fn := fun _ => fun
  | [d1, d2, d3, d4, d5] => { results := [.lit (.bool true)], args := [d1, d2, d3, d4, d5] }
  | _ => none }
def yardLongerRow : OpenClaim := { program := "ytmflcoojlejafaa", sum := "9d810f218ece68a28a261bdf34e368e3e4d5a1f2b2a7bc928160789d26985228", func := "railplan/railplanlaw29.YardLonger", spec := "yardLonger", recurses := true, apart := false }
def YardLongerSaid : Prop := yardLongerRow.holds Try.pinned (OpenSpec.ofChange yardLongerSpec)

/-- ITS FALSE NEIGHBOUR: 'it returns false'. Refute it at one input. -/
def yardLongerWrong : ChangeSpec := { name := "yardLonger", fn := fun _ => fun
  | [d1, d2, d3, d4, d5] => { results := [.lit (.bool false)], args := [d1, d2, d3, d4, d5] }
  | _ => none }
def YardLongerWrongFalsely : Prop := yardLongerRow.holds Try.pinned (OpenSpec.ofChange yardLongerWrong)

/-- 'railplanlaw29.YardSingle': WHATEVER THE INPUT: true; the input reads as it did. -/
def yardSingleSpec : ChangeSpec := { name := "yardSingle", fn := fun _ => fun
  | [d1, d2] => { results := [.lit (.bool true)], args := [d1, d2] }
  | _ => none }
def yardSingleRow : OpenClaim := { program := "ytmflcoojlejafaa", sum := "9d810f218ece68a28a261bdf34e368e3e4d5a1f2b2a7bc928160789d26985228", func := "railplan/railplanlaw29.YardSingle", spec := "yardSingle", recurses := true, apart := false }
def YardSingleSaid : Prop := yardSingleRow.holds Try.pinned (OpenSpec.ofChange yardSingleSpec)

/-- ITS FALSE NEIGHBOUR: 'it returns false'. Refute it at one input. -/
def yardSingleWrong : ChangeSpec := { name := "yardSingle", fn := fun _ => fun
  | [d1, d2] => { results := [.lit (.bool false)], args := [d1, d2] }
  | _ => none }
def YardSingleWrongFalsely : Prop := yardSingleRow.holds Try.pinned (OpenSpec.ofChange yardSingleWrong)

/-- 'railplanlaw29.YardExample': WHATEVER THE INPUT: true; the input reads as it did. -/
def yardExampleSpec : ChangeSpec := { name := "yardExample", fn := fun _ => fun
  | [] => { results := [.lit (.bool true)], args := [] }
  | _ => none }
def yardExampleRow : OpenClaim := { program := "ytmflcoojlejafaa", sum := "9d810f218ece68a28a261bdf34e368e3e4d5a1f2b2a7bc928160789d26985228", func := "railplan/railplanlaw29.YardExample", spec := "yardExample", recurses := true, apart := false }
def YardExampleSaid : Prop := yardExampleRow.holds Try.pinned (OpenSpec.ofChange yardExampleSpec)

/-- ITS FALSE NEIGHBOUR: 'it returns false'. Refute it at one input. -/
def yardExampleWrong : ChangeSpec := { name := "yardExample", fn := fun _ => fun
  | [] => { results := [.lit (.bool false)], args := [] }
  | _ => none }
def YardExampleWrongFalsely : Prop := yardExampleRow.holds Try.pinned (OpenSpec.ofChange yardExampleWrong)

/-- 'railplanlaw29.YardRaw': WHATEVER THE INPUT: true; the input reads as it did. -/
def yardRawSpec : ChangeSpec := { name := "yardRaw", fn := fun _ => fun
  | [d1, d2, d3, d4] => { results := [.lit (.bool true)], args := [d1, d2, d3, d4] }
  | _ => none }
def yardRawRow : OpenClaim := { program := "ytmflcoojlejafaa", sum := "9d810f218ece68a28a261bdf34e368e3e4d5a1f2b2a7bc928160789d26985228", func := "railplan/railplanlaw29.YardRaw", spec := "yardRaw", recurses := true, apart := false }
def YardRawSaid : Prop := yardRawRow.holds Try.pinned (OpenSpec.ofChange yardRawSpec)

/-- ITS FALSE NEIGHBOUR: 'it returns false'. Refute it at one input. -/
def yardRawWrong : ChangeSpec := { name := "yardRaw", fn := fun _ => fun
  | [d1, d2, d3, d4] => { results := [.lit (.bool false)], args := [d1, d2, d3, d4] }
  | _ => none }
def YardRawWrongFalsely : Prop := yardRawRow.holds Try.pinned (OpenSpec.ofChange yardRawWrong)

/-- 'railplanlaw29.YardStuck': WHATEVER THE INPUT: true; the input reads as it did. -/
def yardStuckSpec : ChangeSpec := { name := "yardStuck", fn := fun _ => fun
  | [d] => { results := [.lit (.bool true)], args := [d] }
  | _ => none }
def yardStuckRow : OpenClaim := { program := "ytmflcoojlejafaa", sum := "9d810f218ece68a28a261bdf34e368e3e4d5a1f2b2a7bc928160789d26985228", func := "railplan/railplanlaw29.YardStuck", spec := "yardStuck", recurses := true, apart := false }
def YardStuckSaid : Prop := yardStuckRow.holds Try.pinned (OpenSpec.ofChange yardStuckSpec)

/-- ITS FALSE NEIGHBOUR: 'it returns false'. Refute it at one input. -/
def yardStuckWrong : ChangeSpec := { name := "yardStuck", fn := fun _ => fun
  | [d] => { results := [.lit (.bool false)], args := [d] }
  | _ => none }
def YardStuckWrongFalsely : Prop := yardStuckRow.holds Try.pinned (OpenSpec.ofChange yardStuckWrong)

/- THE SECOND FORM. 'bulk': how many values and letters a reading holds, each counted each time it is reached (what is shared counts as often as it is met; a slice's spare places count too). A statement '..UptoSaid' is the law's where the arguments, and the package variables that the reading takes, are together of bulk at most 1048576: NARROWER than '..Said'. Prove '..Said' where nothing that the law and all that it calls make is longer than what came in: it says more and counts as full. Else prove '..UptoSaid'. A law counts once. -/
mutual
def uptoBulk {H : Type} : DataW H → Nat
  | .lit (.string bytes) => bytes.length + 1
  | .lit _ => 1
  | .nil => 1
  | .ptr d => uptoBulk d + 1
  | .slice elems spare => uptoBulkAll elems + uptoBulkAll spare + 1
  | .agg parts => uptoBulkAll parts + 1
  | .iface _ d => uptoBulk d + 1
  | .map entries => uptoBulkEntries entries + 1
  | .held _ => 1
def uptoBulkAll {H : Type} : List (DataW H) → Nat
  | [] => 0
  | d :: r => uptoBulk d + uptoBulkAll r
def uptoBulkEntries {H : Type} : List (Lit × DataW H) → Nat
  | [] => 0
  | x :: r => uptoBulkEntry x + uptoBulkEntries r
def uptoBulkEntry {H : Type} : Lit × DataW H → Nat
  | (.string bytes, d) => bytes.length + uptoBulk d + 1
  | (_, d) => uptoBulk d + 1
 end
def uptoSmall : (H : Type) → List (DataW H) → Bool := fun _ ds => decide (uptoBulkAll ds ≤ 1048576)
def OpenSpec.upto (s : _root_.Go.ChangeSpec) : _root_.Go.OpenSpec := { _root_.Go.OpenSpec.ofChange s with cond := some uptoSmall }

/-- 'railplanlaw29.YardPlan', WHERE WHAT IT READS IS OF BULK AT MOST 1048576: true; the input reads as it did. -/
def yardPlanUptoRow : OpenClaim := { program := "ytmflcoojlejafaa", sum := "9d810f218ece68a28a261bdf34e368e3e4d5a1f2b2a7bc928160789d26985228", func := "railplan/railplanlaw29.YardPlan", spec := "yardPlan", recurses := true, apart := false, narrowed := true }
def YardPlanUptoSaid : Prop := yardPlanUptoRow.holds Try.pinned (OpenSpec.upto yardPlanSpec)

/-- 'railplanlaw29.YardReplay', WHERE WHAT IT READS IS OF BULK AT MOST 1048576: true; the input reads as it did. -/
def yardReplayUptoRow : OpenClaim := { program := "ytmflcoojlejafaa", sum := "9d810f218ece68a28a261bdf34e368e3e4d5a1f2b2a7bc928160789d26985228", func := "railplan/railplanlaw29.YardReplay", spec := "yardReplay", recurses := true, apart := false, narrowed := true }
def YardReplayUptoSaid : Prop := yardReplayUptoRow.holds Try.pinned (OpenSpec.upto yardReplaySpec)

/-- 'railplanlaw29.YardLeast', WHERE WHAT IT READS IS OF BULK AT MOST 1048576: true; the input reads as it did. -/
def yardLeastUptoRow : OpenClaim := { program := "ytmflcoojlejafaa", sum := "9d810f218ece68a28a261bdf34e368e3e4d5a1f2b2a7bc928160789d26985228", func := "railplan/railplanlaw29.YardLeast", spec := "yardLeast", recurses := true, apart := false, narrowed := true }
def YardLeastUptoSaid : Prop := yardLeastUptoRow.holds Try.pinned (OpenSpec.upto yardLeastSpec)

/-- 'railplanlaw29.YardUnits', WHERE WHAT IT READS IS OF BULK AT MOST 1048576: true; the input reads as it did. -/
def yardUnitsUptoRow : OpenClaim := { program := "ytmflcoojlejafaa", sum := "9d810f218ece68a28a261bdf34e368e3e4d5a1f2b2a7bc928160789d26985228", func := "railplan/railplanlaw29.YardUnits", spec := "yardUnits", recurses := true, apart := false, narrowed := true }
def YardUnitsUptoSaid : Prop := yardUnitsUptoRow.holds Try.pinned (OpenSpec.upto yardUnitsSpec)

/-- 'railplanlaw29.YardLonger', WHERE WHAT IT READS IS OF BULK AT MOST 1048576: true; the input reads as it did. -/
def yardLongerUptoRow : OpenClaim := { program := "ytmflcoojlejafaa", sum := "9d810f218ece68a28a261bdf34e368e3e4d5a1f2b2a7bc928160789d26985228", func := "railplan/railplanlaw29.YardLonger", spec := "yardLonger", recurses := true, apart := false, narrowed := true }
def YardLongerUptoSaid : Prop := yardLongerUptoRow.holds Try.pinned (OpenSpec.upto yardLongerSpec)

/-- 'railplanlaw29.YardSingle', WHERE WHAT IT READS IS OF BULK AT MOST 1048576: true; the input reads as it did. -/
def yardSingleUptoRow : OpenClaim := { program := "ytmflcoojlejafaa", sum := "9d810f218ece68a28a261bdf34e368e3e4d5a1f2b2a7bc928160789d26985228", func := "railplan/railplanlaw29.YardSingle", spec := "yardSingle", recurses := true, apart := false, narrowed := true }
def YardSingleUptoSaid : Prop := yardSingleUptoRow.holds Try.pinned (OpenSpec.upto yardSingleSpec)

/-- 'railplanlaw29.YardExample', WHERE WHAT IT READS IS OF BULK AT MOST 1048576: true; the input reads as it did. -/
def yardExampleUptoRow : OpenClaim := { program := "ytmflcoojlejafaa", sum := "9d810f218ece68a28a261bdf34e368e3e4d5a1f2b2a7bc928160789d26985228", func := "railplan/railplanlaw29.YardExample", spec := "yardExample", recurses := true, apart := false, narrowed := true }
def YardExampleUptoSaid : Prop := yardExampleUptoRow.holds Try.pinned (OpenSpec.upto yardExampleSpec)

/-- 'railplanlaw29.YardRaw', WHERE WHAT IT READS IS OF BULK AT MOST 1048576: true; the input reads as it did. -/
def yardRawUptoRow : OpenClaim := { program := "ytmflcoojlejafaa", sum := "9d810f218ece68a28a261bdf34e368e3e4d5a1f2b2a7bc928160789d26985228", func := "railplan/railplanlaw29.YardRaw", spec := "yardRaw", recurses := true, apart := false, narrowed := true }
def YardRawUptoSaid : Prop := yardRawUptoRow.holds Try.pinned (OpenSpec.upto yardRawSpec)

/-- 'railplanlaw29.YardStuck', WHERE WHAT IT READS IS OF BULK AT MOST 1048576: true; the input reads as it did. -/
def yardStuckUptoRow : OpenClaim := { program := "ytmflcoojlejafaa", sum := "9d810f218ece68a28a261bdf34e368e3e4d5a1f2b2a7bc928160789d26985228", func := "railplan/railplanlaw29.YardStuck", spec := "yardStuck", recurses := true, apart := false, narrowed := true }
def YardStuckUptoSaid : Prop := yardStuckUptoRow.holds Try.pinned (OpenSpec.upto yardStuckSpec)

end Rows
end Go.Proofs.Ytmflcoojlejafaa
