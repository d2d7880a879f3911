/-
  No cell of these rows narrows 'for every input' (looked for: loops, veiled, ifaces, maps, wideKeys, modest, calm, conditions, laid).
  DERIVED. THE GIVEN ROWS OF THIS SEAT. 7 by the template 'for every input the law returns true; each argument reads behind the call as it read before'; 0 by the template 'total and deterministic' (their statements: YtejeafjkhomdoaaTotals.lean).
  GIVEN WITH THE SEED: the statements are not yours to turn. If you find one false, say at which input.
  Laid BY PROGRAM, IN A SANDBOX (cutbox-rows.mjs): the forced cells as the released guide's own fill.sh prints them over the translation 845b9739096300b0… (all of the seat's roots in one cut). By AI agents, Wed Nov 11 2026. No macro, syntax, notation, axiom, sorry.
-/
import Derived.Test.YtejeafjkhomdoaaChecked
import GoSem.Claim
import GoSem.ClaimJoined
import GoSem.ClaimMapViews
import Derived.JoinedTies
import Derived.KernelRfl
namespace Go.Proofs.Ytejeafjkhomdoaa
/- THE CELL 'sum', in the pinned program and in every row, IS THE sha256 OF THE DUMP (.gsa) THAT YtejeafjkhomdoaaProg.lean LOADS. Nothing in Lean hashes anything: it is a label: what it is worth is what the hold of that sum in a sandbox is worth. -/
noncomputable def Try.pinned : Pinned := { name := "ytejeafjkhomdoaa", sum := "845b9739096300b05bd1030144a2f76d98a4b6a44f78c1a478144d8b27d4835a", checked := Try.checked }
namespace Rows
def none {H : Type} : Left H := { results := [], args := [] }

/-- 'hearthlaw10.FlowTells': WHATEVER THE INPUT: true; the input reads as it did. -/
def flowTellsSpec : ChangeSpec := { name := "flowTells", fn := fun _ => fun
  | [d] => { results := [.lit (.bool true)], args := [d] }
  | _ => none }
def flowTellsRow : OpenClaim := { program := "ytejeafjkhomdoaa", sum := "845b9739096300b05bd1030144a2f76d98a4b6a44f78c1a478144d8b27d4835a", func := "hearth/hearthlaw10.FlowTells", spec := "flowTells", inPlace := ["internal/bytealg.MakeNoZero"], unfollowed := true, recurses := true, apart := false }
def FlowTellsSaid : Prop := flowTellsRow.holds Try.pinned (OpenSpec.ofChange flowTellsSpec)

/-- ITS FALSE NEIGHBOUR: 'it returns false'. Refute it at one input. -/
def flowTellsWrong : ChangeSpec := { name := "flowTells", fn := fun _ => fun
  | [d] => { results := [.lit (.bool false)], args := [d] }
  | _ => none }
def FlowTellsWrongFalsely : Prop := flowTellsRow.holds Try.pinned (OpenSpec.ofChange flowTellsWrong)

/-- 'hearthlaw10.FlowQueries': WHATEVER THE INPUT: true; the input reads as it did. -/
def flowQueriesSpec : ChangeSpec := { name := "flowQueries", fn := fun _ => fun
  | [d1, d2, d3] => { results := [.lit (.bool true)], args := [d1, d2, d3] }
  | _ => none }
def flowQueriesRow : OpenClaim := { program := "ytejeafjkhomdoaa", sum := "845b9739096300b05bd1030144a2f76d98a4b6a44f78c1a478144d8b27d4835a", func := "hearth/hearthlaw10.FlowQueries", spec := "flowQueries", inPlace := ["internal/bytealg.MakeNoZero"], unfollowed := true, recurses := true, apart := false }
def FlowQueriesSaid : Prop := flowQueriesRow.holds Try.pinned (OpenSpec.ofChange flowQueriesSpec)

/-- ITS FALSE NEIGHBOUR: 'it returns false'. Refute it at one input. -/
def flowQueriesWrong : ChangeSpec := { name := "flowQueries", fn := fun _ => fun
  | [d1, d2, d3] => { results := [.lit (.bool false)], args := [d1, d2, d3] }
  | _ => none }
def FlowQueriesWrongFalsely : Prop := flowQueriesRow.holds Try.pinned (OpenSpec.ofChange flowQueriesWrong)

/-- 'hearthlaw10.FlowOrders': WHATEVER THE INPUT: true; the input reads as it did. -/
def flowOrdersSpec : ChangeSpec := { name := "flowOrders", fn := fun _ => fun
  | [d1, d2] => { results := [.lit (.bool true)], args := [d1, d2] }
  | _ => none }
def flowOrdersRow : OpenClaim := { program := "ytejeafjkhomdoaa", sum := "845b9739096300b05bd1030144a2f76d98a4b6a44f78c1a478144d8b27d4835a", func := "hearth/hearthlaw10.FlowOrders", spec := "flowOrders", inPlace := ["internal/bytealg.MakeNoZero"], unfollowed := true, recurses := true, apart := false }
def FlowOrdersSaid : Prop := flowOrdersRow.holds Try.pinned (OpenSpec.ofChange flowOrdersSpec)

/-- ITS FALSE NEIGHBOUR: 'it returns false'. Refute it at one input. -/
def flowOrdersWrong : ChangeSpec := { name := "flowOrders", fn := fun _ => fun
  | [d1, d2] => { results := [.lit (.bool false)], args := [d1, d2] }
  | _ => none }
def FlowOrdersWrongFalsely : Prop := flowOrdersRow.holds Try.pinned (OpenSpec.ofChange flowOrdersWrong)

/-- 'hearthlaw10.FlowTurns': WHATEVER THE INPUT: true; the input reads as it did. -/
def flowTurnsSpec : ChangeSpec := { name := "flowTurns", fn := fun _ => fun
  | [d1, d2, d3] => { results := [.lit (.bool true)], args := [d1, d2, d3] }
  | _ => none }
def flowTurnsRow : OpenClaim := { program := "ytejeafjkhomdoaa", sum := "845b9739096300b05bd1030144a2f76d98a4b6a44f78c1a478144d8b27d4835a", func := "hearth/hearthlaw10.FlowTurns", spec := "flowTurns", inPlace := ["internal/bytealg.MakeNoZero"], unfollowed := true, recurses := true, apart := false }
def FlowTurnsSaid : Prop := flowTurnsRow.holds Try.pinned (OpenSpec.ofChange flowTurnsSpec)

/-- ITS FALSE NEIGHBOUR: 'it returns false'. Refute it at one input. -/
def flowTurnsWrong : ChangeSpec := { name := "flowTurns", fn := fun _ => fun
  | [d1, d2, d3] => { results := [.lit (.bool false)], args := [d1, d2, d3] }
  | _ => none }
def FlowTurnsWrongFalsely : Prop := flowTurnsRow.holds Try.pinned (OpenSpec.ofChange flowTurnsWrong)

/-- 'hearthlaw10.FlowRewrites': WHATEVER THE INPUT: true; the input reads as it did. -/
def flowRewritesSpec : ChangeSpec := { name := "flowRewrites", fn := fun _ => fun
  | [d1, d2] => { results := [.lit (.bool true)], args := [d1, d2] }
  | _ => none }
def flowRewritesRow : OpenClaim := { program := "ytejeafjkhomdoaa", sum := "845b9739096300b05bd1030144a2f76d98a4b6a44f78c1a478144d8b27d4835a", func := "hearth/hearthlaw10.FlowRewrites", spec := "flowRewrites", inPlace := ["internal/bytealg.MakeNoZero"], unfollowed := true, recurses := true, apart := false }
def FlowRewritesSaid : Prop := flowRewritesRow.holds Try.pinned (OpenSpec.ofChange flowRewritesSpec)

/-- ITS FALSE NEIGHBOUR: 'it returns false'. Refute it at one input. -/
def flowRewritesWrong : ChangeSpec := { name := "flowRewrites", fn := fun _ => fun
  | [d1, d2] => { results := [.lit (.bool false)], args := [d1, d2] }
  | _ => none }
def FlowRewritesWrongFalsely : Prop := flowRewritesRow.holds Try.pinned (OpenSpec.ofChange flowRewritesWrong)

/-- 'hearthlaw10.FlowBack': WHATEVER THE INPUT: true; the input reads as it did. -/
def flowBackSpec : ChangeSpec := { name := "flowBack", fn := fun _ => fun
  | [d1, d2] => { results := [.lit (.bool true)], args := [d1, d2] }
  | _ => none }
def flowBackRow : OpenClaim := { program := "ytejeafjkhomdoaa", sum := "845b9739096300b05bd1030144a2f76d98a4b6a44f78c1a478144d8b27d4835a", func := "hearth/hearthlaw10.FlowBack", spec := "flowBack", inPlace := ["internal/bytealg.MakeNoZero"], unfollowed := true, recurses := true, apart := false }
def FlowBackSaid : Prop := flowBackRow.holds Try.pinned (OpenSpec.ofChange flowBackSpec)

/-- ITS FALSE NEIGHBOUR: 'it returns false'. Refute it at one input. -/
def flowBackWrong : ChangeSpec := { name := "flowBack", fn := fun _ => fun
  | [d1, d2] => { results := [.lit (.bool false)], args := [d1, d2] }
  | _ => none }
def FlowBackWrongFalsely : Prop := flowBackRow.holds Try.pinned (OpenSpec.ofChange flowBackWrong)

/-- 'hearthlaw10.FlowErrors': WHATEVER THE INPUT: true; the input reads as it did. -/
def flowErrorsSpec : ChangeSpec := { name := "flowErrors", fn := fun _ => fun
  | [d1, d2, d3] => { results := [.lit (.bool true)], args := [d1, d2, d3] }
  | _ => none }
def flowErrorsRow : OpenClaim := { program := "ytejeafjkhomdoaa", sum := "845b9739096300b05bd1030144a2f76d98a4b6a44f78c1a478144d8b27d4835a", func := "hearth/hearthlaw10.FlowErrors", spec := "flowErrors", inPlace := ["internal/bytealg.MakeNoZero"], unfollowed := true, recurses := true, apart := false }
def FlowErrorsSaid : Prop := flowErrorsRow.holds Try.pinned (OpenSpec.ofChange flowErrorsSpec)

/-- ITS FALSE NEIGHBOUR: 'it returns false'. Refute it at one input. -/
def flowErrorsWrong : ChangeSpec := { name := "flowErrors", fn := fun _ => fun
  | [d1, d2, d3] => { results := [.lit (.bool false)], args := [d1, d2, d3] }
  | _ => none }
def FlowErrorsWrongFalsely : Prop := flowErrorsRow.holds Try.pinned (OpenSpec.ofChange flowErrorsWrong)

/- THE SECOND FORM. 'bulk': how many values and letters a reading holds, each counted each time it is reached (what is shared counts as often as it is met; a slice's spare places count too). A statement '..UptoSaid' is the law's where the arguments, and the package variables that the reading takes, are together of bulk at most 1048576: NARROWER than '..Said'. Prove '..Said' where nothing that the law and all that it calls make is longer than what came in: it says more and counts as full. Else prove '..UptoSaid'. A law counts once. -/
mutual
def uptoBulk {H : Type} : DataW H → Nat
  | .lit (.string bytes) => bytes.length + 1
  | .lit _ => 1
  | .nil => 1
  | .ptr d => uptoBulk d + 1
  | .slice elems spare => uptoBulkAll elems + uptoBulkAll spare + 1
  | .agg parts => uptoBulkAll parts + 1
  | .iface _ d => uptoBulk d + 1
  | .map entries => uptoBulkEntries entries + 1
  | .held _ => 1
def uptoBulkAll {H : Type} : List (DataW H) → Nat
  | [] => 0
  | d :: r => uptoBulk d + uptoBulkAll r
def uptoBulkEntries {H : Type} : List (Lit × DataW H) → Nat
  | [] => 0
  | x :: r => uptoBulkEntry x + uptoBulkEntries r
def uptoBulkEntry {H : Type} : Lit × DataW H → Nat
  | (.string bytes, d) => bytes.length + uptoBulk d + 1
  | (_, d) => uptoBulk d + 1
 end
def uptoSmall : (H : Type) → List (DataW H) → Bool := fun _ ds => decide (uptoBulkAll ds ≤ 1048576)
def OpenSpec.upto (s : _root_.Go.ChangeSpec) : _root_.Go.OpenSpec := { _root_.Go.OpenSpec.ofChange s with cond := some uptoSmall }

/-- 'hearthlaw10.FlowTells', WHERE WHAT IT READS IS OF BULK AT MOST 1048576: true; the input reads as it did. -/
def flowTellsUptoRow : OpenClaim := { program := "ytejeafjkhomdoaa", sum := "845b9739096300b05bd1030144a2f76d98a4b6a44f78c1a478144d8b27d4835a", func := "hearth/hearthlaw10.FlowTells", spec := "flowTells", inPlace := ["internal/bytealg.MakeNoZero"], unfollowed := true, recurses := true, apart := false, narrowed := true }
def FlowTellsUptoSaid : Prop := flowTellsUptoRow.holds Try.pinned (OpenSpec.upto flowTellsSpec)

/-- 'hearthlaw10.FlowQueries', WHERE WHAT IT READS IS OF BULK AT MOST 1048576: true; the input reads as it did. -/
def flowQueriesUptoRow : OpenClaim := { program := "ytejeafjkhomdoaa", sum := "845b9739096300b05bd1030144a2f76d98a4b6a44f78c1a478144d8b27d4835a", func := "hearth/hearthlaw10.FlowQueries", spec := "flowQueries", inPlace := ["internal/bytealg.MakeNoZero"], unfollowed := true, recurses := true, apart := false, narrowed := true }
def FlowQueriesUptoSaid : Prop := flowQueriesUptoRow.holds Try.pinned (OpenSpec.upto flowQueriesSpec)

/-- 'hearthlaw10.FlowOrders', WHERE WHAT IT READS IS OF BULK AT MOST 1048576: true; the input reads as it did. -/
def flowOrdersUptoRow : OpenClaim := { program := "ytejeafjkhomdoaa", sum := "845b9739096300b05bd1030144a2f76d98a4b6a44f78c1a478144d8b27d4835a", func := "hearth/hearthlaw10.FlowOrders", spec := "flowOrders", inPlace := ["internal/bytealg.MakeNoZero"], unfollowed := true, recurses := true, apart := false, narrowed := true }
def FlowOrdersUptoSaid : Prop := flowOrdersUptoRow.holds Try.pinned (OpenSpec.upto flowOrdersSpec)

/-- 'hearthlaw10.FlowTurns', WHERE WHAT IT READS IS OF BULK AT MOST 1048576: true; the input reads as it did. -/
def flowTurnsUptoRow : OpenClaim := { program := "ytejeafjkhomdoaa", sum := "845b9739096300b05bd1030144a2f76d98a4b6a44f78c1a478144d8b27d4835a", func := "hearth/hearthlaw10.FlowTurns", spec := "flowTurns", inPlace := ["internal/bytealg.MakeNoZero"], unfollowed := true, recurses := true, apart := false, narrowed := true }
def FlowTurnsUptoSaid : Prop := flowTurnsUptoRow.holds Try.pinned (OpenSpec.upto flowTurnsSpec)

/-- 'hearthlaw10.FlowRewrites', WHERE WHAT IT READS IS OF BULK AT MOST 1048576: true; the input reads as it did. -/
def flowRewritesUptoRow : OpenClaim := { program := "ytejeafjkhomdoaa", sum := "845b9739096300b05bd1030144a2f76d98a4b6a44f78c1a478144d8b27d4835a", func := "hearth/hearthlaw10.FlowRewrites", spec := "flowRewrites", inPlace := ["internal/bytealg.MakeNoZero"], unfollowed := true, recurses := true, apart := false, narrowed := true }
def FlowRewritesUptoSaid : Prop := flowRewritesUptoRow.holds Try.pinned (OpenSpec.upto flowRewritesSpec)

/-- 'hearthlaw10.FlowBack', WHERE WHAT IT READS IS OF BULK AT MOST 1048576: true; the input reads as it did. -/
def flowBackUptoRow : OpenClaim := { program := "ytejeafjkhomdoaa", sum := "845b9739096300b05bd1030144a2f76d98a4b6a44f78c1a478144d8b27d4835a", func := "hearth/hearthlaw10.FlowBack", spec := "flowBack", inPlace := ["internal/bytealg.MakeNoZero"], unfollowed := true, recurses := true, apart := false, narrowed := true }
def FlowBackUptoSaid : Prop := flowBackUptoRow.holds Try.pinned (OpenSpec.upto flowBackSpec)

/-- 'hearthlaw10.FlowErrors', WHERE WHAT IT READS IS OF BULK AT MOST 1048576: true; the input reads as it did. -/
def flowErrorsUptoRow : OpenClaim := { program := "ytejeafjkhomdoaa", sum := "845b9739096300b05bd1030144a2f76d98a4b6a44f78c1a478144d8b27d4835a", func := "hearth/hearthlaw10.FlowErrors", spec := "flowErrors", inPlace := ["internal/bytealg.MakeNoZero"], unfollowed := true, recurses := true, apart := false, narrowed := true }
def FlowErrorsUptoSaid : Prop := flowErrorsUptoRow.holds Try.pinned (OpenSpec.upto flowErrorsSpec)

end Rows
end Go.Proofs.Ytejeafjkhomdoaa
