/-
  No cell of these rows narrows 'for every input' (looked for: loops, veiled, ifaces, maps, wideKeys, modest, calm, conditions, laid).
  DERIVED. THE GIVEN ROWS OF THIS SEAT. 9 by the template 'for every input the law returns true; each argument reads behind the call as it read before'; 0 by the template 'total and deterministic' (their statements: YthfagedaijoenaaTotals.lean).
  GIVEN WITH THE SEED: the statements are not yours to turn. If you find one false, say at which input.
  Laid BY PROGRAM, IN A SANDBOX (cutbox-rows.mjs): the forced cells as the released guide's own fill.sh prints them over the translation a2231f0028a07bb6… (all of the seat's roots in one cut). By AI agents, Wed Nov 11 2026. No macro, syntax, notation, axiom, sorry.
-/
import Derived.Test.YthfagedaijoenaaChecked
import GoSem.Claim
import GoSem.ClaimJoined
import GoSem.ClaimMapViews
import Derived.JoinedTies
import Derived.KernelRfl
namespace Go.Proofs.Ythfagedaijoenaa
/- THE CELL 'sum', in the pinned program and in every row, IS THE sha256 OF THE DUMP (.gsa) THAT YthfagedaijoenaaProg.lean LOADS. Nothing in Lean hashes anything: it is a label: what it is worth is what the hold of that sum in a sandbox is worth. -/
noncomputable def Try.pinned : Pinned := { name := "ythfagedaijoenaa", sum := "a2231f0028a07bb61b7bbd1e8c47a46386a08b9ee8af129160c7c3104f6c407e", checked := Try.checked }
namespace Rows
def none {H : Type} : Left H := { results := [], args := [] }

/-- 'hearthlaw06.KeyedTurned': WHATEVER THE INPUT: true; the input reads as it did. -/
def keyedTurnedSpec : ChangeSpec := { name := "keyedTurned", fn := fun _ => fun
  | [d] => { results := [.lit (.bool true)], args := [d] }
  | _ => none }
def keyedTurnedRow : OpenClaim := { program := "ythfagedaijoenaa", sum := "a2231f0028a07bb61b7bbd1e8c47a46386a08b9ee8af129160c7c3104f6c407e", func := "hearth/hearthlaw06.KeyedTurned", spec := "keyedTurned", inPlace := ["slices.overlaps[hearth/keyed.pair[int, int]]"], unfollowed := true, recurses := true, apart := false }
def KeyedTurnedSaid : Prop := keyedTurnedRow.holds Try.pinned (OpenSpec.ofChange keyedTurnedSpec)

/-- ITS FALSE NEIGHBOUR: 'it returns false'. Refute it at one input. -/
def keyedTurnedWrong : ChangeSpec := { name := "keyedTurned", fn := fun _ => fun
  | [d] => { results := [.lit (.bool false)], args := [d] }
  | _ => none }
def KeyedTurnedWrongFalsely : Prop := keyedTurnedRow.holds Try.pinned (OpenSpec.ofChange keyedTurnedWrong)

/-- 'hearthlaw06.KeyedLast': WHATEVER THE INPUT: true; the input reads as it did. -/
def keyedLastSpec : ChangeSpec := { name := "keyedLast", fn := fun _ => fun
  | [d1, d2, d3] => { results := [.lit (.bool true)], args := [d1, d2, d3] }
  | _ => none }
def keyedLastRow : OpenClaim := { program := "ythfagedaijoenaa", sum := "a2231f0028a07bb61b7bbd1e8c47a46386a08b9ee8af129160c7c3104f6c407e", func := "hearth/hearthlaw06.KeyedLast", spec := "keyedLast", inPlace := ["slices.overlaps[hearth/keyed.pair[int, int]]"], unfollowed := true, recurses := true, apart := false }
def KeyedLastSaid : Prop := keyedLastRow.holds Try.pinned (OpenSpec.ofChange keyedLastSpec)

/-- ITS FALSE NEIGHBOUR: 'it returns false'. Refute it at one input. -/
def keyedLastWrong : ChangeSpec := { name := "keyedLast", fn := fun _ => fun
  | [d1, d2, d3] => { results := [.lit (.bool false)], args := [d1, d2, d3] }
  | _ => none }
def KeyedLastWrongFalsely : Prop := keyedLastRow.holds Try.pinned (OpenSpec.ofChange keyedLastWrong)

/-- 'hearthlaw06.KeyedStops': WHATEVER THE INPUT: true; the input reads as it did. -/
def keyedStopsSpec : ChangeSpec := { name := "keyedStops", fn := fun _ => fun
  | [d1, d2] => { results := [.lit (.bool true)], args := [d1, d2] }
  | _ => none }
def keyedStopsRow : OpenClaim := { program := "ythfagedaijoenaa", sum := "a2231f0028a07bb61b7bbd1e8c47a46386a08b9ee8af129160c7c3104f6c407e", func := "hearth/hearthlaw06.KeyedStops", spec := "keyedStops", inPlace := ["slices.overlaps[hearth/keyed.pair[int, int]]"], unfollowed := true, recurses := true, apart := false }
def KeyedStopsSaid : Prop := keyedStopsRow.holds Try.pinned (OpenSpec.ofChange keyedStopsSpec)

/-- ITS FALSE NEIGHBOUR: 'it returns false'. Refute it at one input. -/
def keyedStopsWrong : ChangeSpec := { name := "keyedStops", fn := fun _ => fun
  | [d1, d2] => { results := [.lit (.bool false)], args := [d1, d2] }
  | _ => none }
def KeyedStopsWrongFalsely : Prop := keyedStopsRow.holds Try.pinned (OpenSpec.ofChange keyedStopsWrong)

/-- 'hearthlaw06.KeyedRises': WHATEVER THE INPUT: true; the input reads as it did. -/
def keyedRisesSpec : ChangeSpec := { name := "keyedRises", fn := fun _ => fun
  | [d1, d2] => { results := [.lit (.bool true)], args := [d1, d2] }
  | _ => none }
def keyedRisesRow : OpenClaim := { program := "ythfagedaijoenaa", sum := "a2231f0028a07bb61b7bbd1e8c47a46386a08b9ee8af129160c7c3104f6c407e", func := "hearth/hearthlaw06.KeyedRises", spec := "keyedRises", inPlace := ["slices.overlaps[hearth/keyed.pair[int, int]]"], unfollowed := true, recurses := true, apart := false }
def KeyedRisesSaid : Prop := keyedRisesRow.holds Try.pinned (OpenSpec.ofChange keyedRisesSpec)

/-- ITS FALSE NEIGHBOUR: 'it returns false'. Refute it at one input. -/
def keyedRisesWrong : ChangeSpec := { name := "keyedRises", fn := fun _ => fun
  | [d1, d2] => { results := [.lit (.bool false)], args := [d1, d2] }
  | _ => none }
def KeyedRisesWrongFalsely : Prop := keyedRisesRow.holds Try.pinned (OpenSpec.ofChange keyedRisesWrong)

/-- 'hearthlaw06.KeyedPlays': WHATEVER THE INPUT: true; the input reads as it did. -/
def keyedPlaysSpec : ChangeSpec := { name := "keyedPlays", fn := fun _ => fun
  | [d1, d2] => { results := [.lit (.bool true)], args := [d1, d2] }
  | _ => none }
def keyedPlaysRow : OpenClaim := { program := "ythfagedaijoenaa", sum := "a2231f0028a07bb61b7bbd1e8c47a46386a08b9ee8af129160c7c3104f6c407e", func := "hearth/hearthlaw06.KeyedPlays", spec := "keyedPlays", inPlace := ["slices.overlaps[hearth/keyed.pair[int, int]]"], unfollowed := true, recurses := true, apart := false }
def KeyedPlaysSaid : Prop := keyedPlaysRow.holds Try.pinned (OpenSpec.ofChange keyedPlaysSpec)

/-- ITS FALSE NEIGHBOUR: 'it returns false'. Refute it at one input. -/
def keyedPlaysWrong : ChangeSpec := { name := "keyedPlays", fn := fun _ => fun
  | [d1, d2] => { results := [.lit (.bool false)], args := [d1, d2] }
  | _ => none }
def KeyedPlaysWrongFalsely : Prop := keyedPlaysRow.holds Try.pinned (OpenSpec.ofChange keyedPlaysWrong)

/-- 'hearthlaw08.WheelTwice': WHATEVER THE INPUT: true; the input reads as it did. -/
def wheelTwiceSpec : ChangeSpec := { name := "wheelTwice", fn := fun _ => fun
  | [d1, d2, d3] => { results := [.lit (.bool true)], args := [d1, d2, d3] }
  | _ => none }
def wheelTwiceRow : OpenClaim := { program := "ythfagedaijoenaa", sum := "a2231f0028a07bb61b7bbd1e8c47a46386a08b9ee8af129160c7c3104f6c407e", func := "hearth/hearthlaw08.WheelTwice", spec := "wheelTwice", inPlace := ["slices.overlaps[hearth/wheel.spoke[int]]"], unfollowed := true, recurses := true, apart := false }
def WheelTwiceSaid : Prop := wheelTwiceRow.holds Try.pinned (OpenSpec.ofChange wheelTwiceSpec)

/-- ITS FALSE NEIGHBOUR: 'it returns false'. Refute it at one input. -/
def wheelTwiceWrong : ChangeSpec := { name := "wheelTwice", fn := fun _ => fun
  | [d1, d2, d3] => { results := [.lit (.bool false)], args := [d1, d2, d3] }
  | _ => none }
def WheelTwiceWrongFalsely : Prop := wheelTwiceRow.holds Try.pinned (OpenSpec.ofChange wheelTwiceWrong)

/-- 'hearthlaw08.WheelNext': WHATEVER THE INPUT: true; the input reads as it did. -/
def wheelNextSpec : ChangeSpec := { name := "wheelNext", fn := fun _ => fun
  | [d] => { results := [.lit (.bool true)], args := [d] }
  | _ => none }
def wheelNextRow : OpenClaim := { program := "ythfagedaijoenaa", sum := "a2231f0028a07bb61b7bbd1e8c47a46386a08b9ee8af129160c7c3104f6c407e", func := "hearth/hearthlaw08.WheelNext", spec := "wheelNext", inPlace := ["slices.overlaps[hearth/wheel.spoke[int]]"], unfollowed := true, recurses := true, apart := false }
def WheelNextSaid : Prop := wheelNextRow.holds Try.pinned (OpenSpec.ofChange wheelNextSpec)

/-- ITS FALSE NEIGHBOUR: 'it returns false'. Refute it at one input. -/
def wheelNextWrong : ChangeSpec := { name := "wheelNext", fn := fun _ => fun
  | [d] => { results := [.lit (.bool false)], args := [d] }
  | _ => none }
def WheelNextWrongFalsely : Prop := wheelNextRow.holds Try.pinned (OpenSpec.ofChange wheelNextWrong)

/-- 'hearthlaw08.WheelAgain': WHATEVER THE INPUT: true; the input reads as it did. -/
def wheelAgainSpec : ChangeSpec := { name := "wheelAgain", fn := fun _ => fun
  | [d1, d2, d3] => { results := [.lit (.bool true)], args := [d1, d2, d3] }
  | _ => none }
def wheelAgainRow : OpenClaim := { program := "ythfagedaijoenaa", sum := "a2231f0028a07bb61b7bbd1e8c47a46386a08b9ee8af129160c7c3104f6c407e", func := "hearth/hearthlaw08.WheelAgain", spec := "wheelAgain", inPlace := ["slices.overlaps[hearth/wheel.spoke[int]]"], unfollowed := true, recurses := true, apart := false }
def WheelAgainSaid : Prop := wheelAgainRow.holds Try.pinned (OpenSpec.ofChange wheelAgainSpec)

/-- ITS FALSE NEIGHBOUR: 'it returns false'. Refute it at one input. -/
def wheelAgainWrong : ChangeSpec := { name := "wheelAgain", fn := fun _ => fun
  | [d1, d2, d3] => { results := [.lit (.bool false)], args := [d1, d2, d3] }
  | _ => none }
def WheelAgainWrongFalsely : Prop := wheelAgainRow.holds Try.pinned (OpenSpec.ofChange wheelAgainWrong)

/-- 'hearthlaw08.WheelPlays': WHATEVER THE INPUT: true; the input reads as it did. -/
def wheelPlaysSpec : ChangeSpec := { name := "wheelPlays", fn := fun _ => fun
  | [d] => { results := [.lit (.bool true)], args := [d] }
  | _ => none }
def wheelPlaysRow : OpenClaim := { program := "ythfagedaijoenaa", sum := "a2231f0028a07bb61b7bbd1e8c47a46386a08b9ee8af129160c7c3104f6c407e", func := "hearth/hearthlaw08.WheelPlays", spec := "wheelPlays", inPlace := ["slices.overlaps[hearth/wheel.spoke[int]]"], unfollowed := true, recurses := true, apart := false }
def WheelPlaysSaid : Prop := wheelPlaysRow.holds Try.pinned (OpenSpec.ofChange wheelPlaysSpec)

/-- ITS FALSE NEIGHBOUR: 'it returns false'. Refute it at one input. -/
def wheelPlaysWrong : ChangeSpec := { name := "wheelPlays", fn := fun _ => fun
  | [d] => { results := [.lit (.bool false)], args := [d] }
  | _ => none }
def WheelPlaysWrongFalsely : Prop := wheelPlaysRow.holds Try.pinned (OpenSpec.ofChange wheelPlaysWrong)

/- THE SECOND FORM. 'bulk': how many values and letters a reading holds, each counted each time it is reached (what is shared counts as often as it is met; a slice's spare places count too). A statement '..UptoSaid' is the law's where the arguments, and the package variables that the reading takes, are together of bulk at most 1048576: NARROWER than '..Said'. Prove '..Said' where nothing that the law and all that it calls make is longer than what came in: it says more and counts as full. Else prove '..UptoSaid'. A law counts once. -/
mutual
def uptoBulk {H : Type} : DataW H → Nat
  | .lit (.string bytes) => bytes.length + 1
  | .lit _ => 1
  | .nil => 1
  | .ptr d => uptoBulk d + 1
  | .slice elems spare => uptoBulkAll elems + uptoBulkAll spare + 1
  | .agg parts => uptoBulkAll parts + 1
  | .iface _ d => uptoBulk d + 1
  | .map entries => uptoBulkEntries entries + 1
  | .held _ => 1
def uptoBulkAll {H : Type} : List (DataW H) → Nat
  | [] => 0
  | d :: r => uptoBulk d + uptoBulkAll r
def uptoBulkEntries {H : Type} : List (Lit × DataW H) → Nat
  | [] => 0
  | x :: r => uptoBulkEntry x + uptoBulkEntries r
def uptoBulkEntry {H : Type} : Lit × DataW H → Nat
  | (.string bytes, d) => bytes.length + uptoBulk d + 1
  | (_, d) => uptoBulk d + 1
 end
def uptoSmall : (H : Type) → List (DataW H) → Bool := fun _ ds => decide (uptoBulkAll ds ≤ 1048576)
def OpenSpec.upto (s : _root_.Go.ChangeSpec) : _root_.Go.OpenSpec := { _root_.Go.OpenSpec.ofChange s with cond := some uptoSmall }

/-- 'hearthlaw06.KeyedTurned', WHERE WHAT IT READS IS OF BULK AT MOST 1048576: true; the input reads as it did. -/
def keyedTurnedUptoRow : OpenClaim := { program := "ythfagedaijoenaa", sum := "a2231f0028a07bb61b7bbd1e8c47a46386a08b9ee8af129160c7c3104f6c407e", func := "hearth/hearthlaw06.KeyedTurned", spec := "keyedTurned", inPlace := ["slices.overlaps[hearth/keyed.pair[int, int]]"], unfollowed := true, recurses := true, apart := false, narrowed := true }
def KeyedTurnedUptoSaid : Prop := keyedTurnedUptoRow.holds Try.pinned (OpenSpec.upto keyedTurnedSpec)

/-- 'hearthlaw06.KeyedLast', WHERE WHAT IT READS IS OF BULK AT MOST 1048576: true; the input reads as it did. -/
def keyedLastUptoRow : OpenClaim := { program := "ythfagedaijoenaa", sum := "a2231f0028a07bb61b7bbd1e8c47a46386a08b9ee8af129160c7c3104f6c407e", func := "hearth/hearthlaw06.KeyedLast", spec := "keyedLast", inPlace := ["slices.overlaps[hearth/keyed.pair[int, int]]"], unfollowed := true, recurses := true, apart := false, narrowed := true }
def KeyedLastUptoSaid : Prop := keyedLastUptoRow.holds Try.pinned (OpenSpec.upto keyedLastSpec)

/-- 'hearthlaw06.KeyedStops', WHERE WHAT IT READS IS OF BULK AT MOST 1048576: true; the input reads as it did. -/
def keyedStopsUptoRow : OpenClaim := { program := "ythfagedaijoenaa", sum := "a2231f0028a07bb61b7bbd1e8c47a46386a08b9ee8af129160c7c3104f6c407e", func := "hearth/hearthlaw06.KeyedStops", spec := "keyedStops", inPlace := ["slices.overlaps[hearth/keyed.pair[int, int]]"], unfollowed := true, recurses := true, apart := false, narrowed := true }
def KeyedStopsUptoSaid : Prop := keyedStopsUptoRow.holds Try.pinned (OpenSpec.upto keyedStopsSpec)

/-- 'hearthlaw06.KeyedRises', WHERE WHAT IT READS IS OF BULK AT MOST 1048576: true; the input reads as it did. -/
def keyedRisesUptoRow : OpenClaim := { program := "ythfagedaijoenaa", sum := "a2231f0028a07bb61b7bbd1e8c47a46386a08b9ee8af129160c7c3104f6c407e", func := "hearth/hearthlaw06.KeyedRises", spec := "keyedRises", inPlace := ["slices.overlaps[hearth/keyed.pair[int, int]]"], unfollowed := true, recurses := true, apart := false, narrowed := true }
def KeyedRisesUptoSaid : Prop := keyedRisesUptoRow.holds Try.pinned (OpenSpec.upto keyedRisesSpec)

/-- 'hearthlaw06.KeyedPlays', WHERE WHAT IT READS IS OF BULK AT MOST 1048576: true; the input reads as it did. -/
def keyedPlaysUptoRow : OpenClaim := { program := "ythfagedaijoenaa", sum := "a2231f0028a07bb61b7bbd1e8c47a46386a08b9ee8af129160c7c3104f6c407e", func := "hearth/hearthlaw06.KeyedPlays", spec := "keyedPlays", inPlace := ["slices.overlaps[hearth/keyed.pair[int, int]]"], unfollowed := true, recurses := true, apart := false, narrowed := true }
def KeyedPlaysUptoSaid : Prop := keyedPlaysUptoRow.holds Try.pinned (OpenSpec.upto keyedPlaysSpec)

/-- 'hearthlaw08.WheelTwice', WHERE WHAT IT READS IS OF BULK AT MOST 1048576: true; the input reads as it did. -/
def wheelTwiceUptoRow : OpenClaim := { program := "ythfagedaijoenaa", sum := "a2231f0028a07bb61b7bbd1e8c47a46386a08b9ee8af129160c7c3104f6c407e", func := "hearth/hearthlaw08.WheelTwice", spec := "wheelTwice", inPlace := ["slices.overlaps[hearth/wheel.spoke[int]]"], unfollowed := true, recurses := true, apart := false, narrowed := true }
def WheelTwiceUptoSaid : Prop := wheelTwiceUptoRow.holds Try.pinned (OpenSpec.upto wheelTwiceSpec)

/-- 'hearthlaw08.WheelNext', WHERE WHAT IT READS IS OF BULK AT MOST 1048576: true; the input reads as it did. -/
def wheelNextUptoRow : OpenClaim := { program := "ythfagedaijoenaa", sum := "a2231f0028a07bb61b7bbd1e8c47a46386a08b9ee8af129160c7c3104f6c407e", func := "hearth/hearthlaw08.WheelNext", spec := "wheelNext", inPlace := ["slices.overlaps[hearth/wheel.spoke[int]]"], unfollowed := true, recurses := true, apart := false, narrowed := true }
def WheelNextUptoSaid : Prop := wheelNextUptoRow.holds Try.pinned (OpenSpec.upto wheelNextSpec)

/-- 'hearthlaw08.WheelAgain', WHERE WHAT IT READS IS OF BULK AT MOST 1048576: true; the input reads as it did. -/
def wheelAgainUptoRow : OpenClaim := { program := "ythfagedaijoenaa", sum := "a2231f0028a07bb61b7bbd1e8c47a46386a08b9ee8af129160c7c3104f6c407e", func := "hearth/hearthlaw08.WheelAgain", spec := "wheelAgain", inPlace := ["slices.overlaps[hearth/wheel.spoke[int]]"], unfollowed := true, recurses := true, apart := false, narrowed := true }
def WheelAgainUptoSaid : Prop := wheelAgainUptoRow.holds Try.pinned (OpenSpec.upto wheelAgainSpec)

/-- 'hearthlaw08.WheelPlays', WHERE WHAT IT READS IS OF BULK AT MOST 1048576: true; the input reads as it did. -/
def wheelPlaysUptoRow : OpenClaim := { program := "ythfagedaijoenaa", sum := "a2231f0028a07bb61b7bbd1e8c47a46386a08b9ee8af129160c7c3104f6c407e", func := "hearth/hearthlaw08.WheelPlays", spec := "wheelPlays", inPlace := ["slices.overlaps[hearth/wheel.spoke[int]]"], unfollowed := true, recurses := true, apart := false, narrowed := true }
def WheelPlaysUptoSaid : Prop := wheelPlaysUptoRow.holds Try.pinned (OpenSpec.upto wheelPlaysSpec)

end Rows
end Go.Proofs.Ythfagedaijoenaa
