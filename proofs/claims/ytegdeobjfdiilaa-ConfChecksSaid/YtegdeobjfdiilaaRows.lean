/-
  No cell of these rows narrows 'for every input' (looked for: loops, veiled, ifaces, maps, wideKeys, modest, calm, conditions, laid).
  DERIVED. THE GIVEN ROWS OF THIS SEAT. 9 by the template 'for every input the law returns true; each argument reads behind the call as it read before'; 0 by the template 'total and deterministic' (their statements: YtegdeobjfdiilaaTotals.lean).
  GIVEN WITH THE SEED: the statements are not yours to turn. If you find one false, say at which input.
  Laid BY PROGRAM, IN A SANDBOX (cutbox-rows.mjs): the forced cells as the released guide's own fill.sh prints them over the translation d6634ecdd6e9c0b5… (all of the seat's roots in one cut). By AI agents, Wed Nov 11 2026. No macro, syntax, notation, axiom, sorry.
-/
import Derived.Test.YtegdeobjfdiilaaChecked
import GoSem.Claim
import GoSem.ClaimJoined
import GoSem.ClaimMapViews
import Derived.JoinedTies
import Derived.KernelRfl
namespace Go.Proofs.Ytegdeobjfdiilaa
/- THE CELL 'sum', in the pinned program and in every row, IS THE sha256 OF THE DUMP (.gsa) THAT YtegdeobjfdiilaaProg.lean LOADS. Nothing in Lean hashes anything: it is a label: what it is worth is what the hold of that sum in a sandbox is worth. -/
noncomputable def Try.pinned : Pinned := { name := "ytegdeobjfdiilaa", sum := "d6634ecdd6e9c0b59fb090a3cb8d4f58ea248ccc474d6f2fcd5f2426a08c8cbf", checked := Try.checked }
namespace Rows
def none {H : Type} : Left H := { results := [], args := [] }

/-- 'hearthlaw09.ConfNever': WHATEVER THE INPUT: true; the input reads as it did. -/
def confNeverSpec : ChangeSpec := { name := "confNever", fn := fun _ => fun
  | [d1, d2] => { results := [.lit (.bool true)], args := [d1, d2] }
  | _ => none }
def confNeverRow : OpenClaim := { program := "ytegdeobjfdiilaa", sum := "d6634ecdd6e9c0b59fb090a3cb8d4f58ea248ccc474d6f2fcd5f2426a08c8cbf", func := "hearth/hearthlaw09.ConfNever", spec := "confNever", apart := false }
def ConfNeverSaid : Prop := confNeverRow.holds Try.pinned (OpenSpec.ofChange confNeverSpec)

/-- ITS FALSE NEIGHBOUR: 'it returns false'. Refute it at one input. -/
def confNeverWrong : ChangeSpec := { name := "confNever", fn := fun _ => fun
  | [d1, d2] => { results := [.lit (.bool false)], args := [d1, d2] }
  | _ => none }
def ConfNeverWrongFalsely : Prop := confNeverRow.holds Try.pinned (OpenSpec.ofChange confNeverWrong)

/-- 'hearthlaw09.ConfHosts': WHATEVER THE INPUT: true; the input reads as it did. -/
def confHostsSpec : ChangeSpec := { name := "confHosts", fn := fun _ => fun
  | [d1, d2, d3] => { results := [.lit (.bool true)], args := [d1, d2, d3] }
  | _ => none }
def confHostsRow : OpenClaim := { program := "ytegdeobjfdiilaa", sum := "d6634ecdd6e9c0b59fb090a3cb8d4f58ea248ccc474d6f2fcd5f2426a08c8cbf", func := "hearth/hearthlaw09.ConfHosts", spec := "confHosts", apart := false }
def ConfHostsSaid : Prop := confHostsRow.holds Try.pinned (OpenSpec.ofChange confHostsSpec)

/-- ITS FALSE NEIGHBOUR: 'it returns false'. Refute it at one input. -/
def confHostsWrong : ChangeSpec := { name := "confHosts", fn := fun _ => fun
  | [d1, d2, d3] => { results := [.lit (.bool false)], args := [d1, d2, d3] }
  | _ => none }
def ConfHostsWrongFalsely : Prop := confHostsRow.holds Try.pinned (OpenSpec.ofChange confHostsWrong)

/-- 'hearthlaw09.ConfTexts': WHATEVER THE INPUT: true; the input reads as it did. -/
def confTextsSpec : ChangeSpec := { name := "confTexts", fn := fun _ => fun
  | [d] => { results := [.lit (.bool true)], args := [d] }
  | _ => none }
def confTextsRow : OpenClaim := { program := "ytegdeobjfdiilaa", sum := "d6634ecdd6e9c0b59fb090a3cb8d4f58ea248ccc474d6f2fcd5f2426a08c8cbf", func := "hearth/hearthlaw09.ConfTexts", spec := "confTexts", apart := false }
def ConfTextsSaid : Prop := confTextsRow.holds Try.pinned (OpenSpec.ofChange confTextsSpec)

/-- ITS FALSE NEIGHBOUR: 'it returns false'. Refute it at one input. -/
def confTextsWrong : ChangeSpec := { name := "confTexts", fn := fun _ => fun
  | [d] => { results := [.lit (.bool false)], args := [d] }
  | _ => none }
def ConfTextsWrongFalsely : Prop := confTextsRow.holds Try.pinned (OpenSpec.ofChange confTextsWrong)

/-- 'hearthlaw11.TrackPlays': WHATEVER THE INPUT: true; the input reads as it did. -/
def trackPlaysSpec : ChangeSpec := { name := "trackPlays", fn := fun _ => fun
  | [d1, d2, d3] => { results := [.lit (.bool true)], args := [d1, d2, d3] }
  | _ => none }
def trackPlaysRow : OpenClaim := { program := "ytegdeobjfdiilaa", sum := "d6634ecdd6e9c0b59fb090a3cb8d4f58ea248ccc474d6f2fcd5f2426a08c8cbf", func := "hearth/hearthlaw11.TrackPlays", spec := "trackPlays", apart := false }
def TrackPlaysSaid : Prop := trackPlaysRow.holds Try.pinned (OpenSpec.ofChange trackPlaysSpec)

/-- ITS FALSE NEIGHBOUR: 'it returns false'. Refute it at one input. -/
def trackPlaysWrong : ChangeSpec := { name := "trackPlays", fn := fun _ => fun
  | [d1, d2, d3] => { results := [.lit (.bool false)], args := [d1, d2, d3] }
  | _ => none }
def TrackPlaysWrongFalsely : Prop := trackPlaysRow.holds Try.pinned (OpenSpec.ofChange trackPlaysWrong)

/-- 'hearthlaw11.TrackOver': WHATEVER THE INPUT: true; the input reads as it did. -/
def trackOverSpec : ChangeSpec := { name := "trackOver", fn := fun _ => fun
  | [d] => { results := [.lit (.bool true)], args := [d] }
  | _ => none }
def trackOverRow : OpenClaim := { program := "ytegdeobjfdiilaa", sum := "d6634ecdd6e9c0b59fb090a3cb8d4f58ea248ccc474d6f2fcd5f2426a08c8cbf", func := "hearth/hearthlaw11.TrackOver", spec := "trackOver", apart := false }
def TrackOverSaid : Prop := trackOverRow.holds Try.pinned (OpenSpec.ofChange trackOverSpec)

/-- ITS FALSE NEIGHBOUR: 'it returns false'. Refute it at one input. -/
def trackOverWrong : ChangeSpec := { name := "trackOver", fn := fun _ => fun
  | [d] => { results := [.lit (.bool false)], args := [d] }
  | _ => none }
def TrackOverWrongFalsely : Prop := trackOverRow.holds Try.pinned (OpenSpec.ofChange trackOverWrong)

/-- 'hearthlaw11.TrackBegins': WHATEVER THE INPUT: true; the input reads as it did. -/
def trackBeginsSpec : ChangeSpec := { name := "trackBegins", fn := fun _ => fun
  | [d1, d2] => { results := [.lit (.bool true)], args := [d1, d2] }
  | _ => none }
def trackBeginsRow : OpenClaim := { program := "ytegdeobjfdiilaa", sum := "d6634ecdd6e9c0b59fb090a3cb8d4f58ea248ccc474d6f2fcd5f2426a08c8cbf", func := "hearth/hearthlaw11.TrackBegins", spec := "trackBegins", apart := false }
def TrackBeginsSaid : Prop := trackBeginsRow.holds Try.pinned (OpenSpec.ofChange trackBeginsSpec)

/-- ITS FALSE NEIGHBOUR: 'it returns false'. Refute it at one input. -/
def trackBeginsWrong : ChangeSpec := { name := "trackBegins", fn := fun _ => fun
  | [d1, d2] => { results := [.lit (.bool false)], args := [d1, d2] }
  | _ => none }
def TrackBeginsWrongFalsely : Prop := trackBeginsRow.holds Try.pinned (OpenSpec.ofChange trackBeginsWrong)

/-- 'hearthlaw11.TrackLasts': WHATEVER THE INPUT: true; the input reads as it did. -/
def trackLastsSpec : ChangeSpec := { name := "trackLasts", fn := fun _ => fun
  | [d1, d2, d3] => { results := [.lit (.bool true)], args := [d1, d2, d3] }
  | _ => none }
def trackLastsRow : OpenClaim := { program := "ytegdeobjfdiilaa", sum := "d6634ecdd6e9c0b59fb090a3cb8d4f58ea248ccc474d6f2fcd5f2426a08c8cbf", func := "hearth/hearthlaw11.TrackLasts", spec := "trackLasts", apart := false }
def TrackLastsSaid : Prop := trackLastsRow.holds Try.pinned (OpenSpec.ofChange trackLastsSpec)

/-- ITS FALSE NEIGHBOUR: 'it returns false'. Refute it at one input. -/
def trackLastsWrong : ChangeSpec := { name := "trackLasts", fn := fun _ => fun
  | [d1, d2, d3] => { results := [.lit (.bool false)], args := [d1, d2, d3] }
  | _ => none }
def TrackLastsWrongFalsely : Prop := trackLastsRow.holds Try.pinned (OpenSpec.ofChange trackLastsWrong)

/-- 'hearthlaw09.ConfOne': WHATEVER THE INPUT: true; the input reads as it did. -/
def confOneSpec : ChangeSpec := { name := "confOne", fn := fun _ => fun
  | [d1, d2] => { results := [.lit (.bool true)], args := [d1, d2] }
  | _ => none }
def confOneRow : OpenClaim := { program := "ytegdeobjfdiilaa", sum := "d6634ecdd6e9c0b59fb090a3cb8d4f58ea248ccc474d6f2fcd5f2426a08c8cbf", func := "hearth/hearthlaw09.ConfOne", spec := "confOne", apart := false }
def ConfOneSaid : Prop := confOneRow.holds Try.pinned (OpenSpec.ofChange confOneSpec)

/-- ITS FALSE NEIGHBOUR: 'it returns false'. Refute it at one input. -/
def confOneWrong : ChangeSpec := { name := "confOne", fn := fun _ => fun
  | [d1, d2] => { results := [.lit (.bool false)], args := [d1, d2] }
  | _ => none }
def ConfOneWrongFalsely : Prop := confOneRow.holds Try.pinned (OpenSpec.ofChange confOneWrong)

/-- 'hearthlaw09.ConfChecks': WHATEVER THE INPUT: true; the input reads as it did. -/
def confChecksSpec : ChangeSpec := { name := "confChecks", fn := fun _ => fun
  | [d] => { results := [.lit (.bool true)], args := [d] }
  | _ => none }
def confChecksRow : OpenClaim := { program := "ytegdeobjfdiilaa", sum := "d6634ecdd6e9c0b59fb090a3cb8d4f58ea248ccc474d6f2fcd5f2426a08c8cbf", func := "hearth/hearthlaw09.ConfChecks", spec := "confChecks", apart := false }
def ConfChecksSaid : Prop := confChecksRow.holds Try.pinned (OpenSpec.ofChange confChecksSpec)

/-- ITS FALSE NEIGHBOUR: 'it returns false'. Refute it at one input. -/
def confChecksWrong : ChangeSpec := { name := "confChecks", fn := fun _ => fun
  | [d] => { results := [.lit (.bool false)], args := [d] }
  | _ => none }
def ConfChecksWrongFalsely : Prop := confChecksRow.holds Try.pinned (OpenSpec.ofChange confChecksWrong)

/- THE SECOND FORM. 'bulk': how many values and letters a reading holds, each counted each time it is reached (what is shared counts as often as it is met; a slice's spare places count too). A statement '..UptoSaid' is the law's where the arguments, and the package variables that the reading takes, are together of bulk at most 1048576: NARROWER than '..Said'. Prove '..Said' where nothing that the law and all that it calls make is longer than what came in: it says more and counts as full. Else prove '..UptoSaid'. A law counts once. -/
mutual
def uptoBulk {H : Type} : DataW H → Nat
  | .lit (.string bytes) => bytes.length + 1
  | .lit _ => 1
  | .nil => 1
  | .ptr d => uptoBulk d + 1
  | .slice elems spare => uptoBulkAll elems + uptoBulkAll spare + 1
  | .agg parts => uptoBulkAll parts + 1
  | .iface _ d => uptoBulk d + 1
  | .map entries => uptoBulkEntries entries + 1
  | .held _ => 1
def uptoBulkAll {H : Type} : List (DataW H) → Nat
  | [] => 0
  | d :: r => uptoBulk d + uptoBulkAll r
def uptoBulkEntries {H : Type} : List (Lit × DataW H) → Nat
  | [] => 0
  | x :: r => uptoBulkEntry x + uptoBulkEntries r
def uptoBulkEntry {H : Type} : Lit × DataW H → Nat
  | (.string bytes, d) => bytes.length + uptoBulk d + 1
  | (_, d) => uptoBulk d + 1
 end
def uptoSmall : (H : Type) → List (DataW H) → Bool := fun _ ds => decide (uptoBulkAll ds ≤ 1048576)
def OpenSpec.upto (s : _root_.Go.ChangeSpec) : _root_.Go.OpenSpec := { _root_.Go.OpenSpec.ofChange s with cond := some uptoSmall }

/-- 'hearthlaw09.ConfNever', WHERE WHAT IT READS IS OF BULK AT MOST 1048576: true; the input reads as it did. -/
def confNeverUptoRow : OpenClaim := { program := "ytegdeobjfdiilaa", sum := "d6634ecdd6e9c0b59fb090a3cb8d4f58ea248ccc474d6f2fcd5f2426a08c8cbf", func := "hearth/hearthlaw09.ConfNever", spec := "confNever", apart := false, narrowed := true }
def ConfNeverUptoSaid : Prop := confNeverUptoRow.holds Try.pinned (OpenSpec.upto confNeverSpec)

/-- 'hearthlaw09.ConfHosts', WHERE WHAT IT READS IS OF BULK AT MOST 1048576: true; the input reads as it did. -/
def confHostsUptoRow : OpenClaim := { program := "ytegdeobjfdiilaa", sum := "d6634ecdd6e9c0b59fb090a3cb8d4f58ea248ccc474d6f2fcd5f2426a08c8cbf", func := "hearth/hearthlaw09.ConfHosts", spec := "confHosts", apart := false, narrowed := true }
def ConfHostsUptoSaid : Prop := confHostsUptoRow.holds Try.pinned (OpenSpec.upto confHostsSpec)

/-- 'hearthlaw09.ConfTexts', WHERE WHAT IT READS IS OF BULK AT MOST 1048576: true; the input reads as it did. -/
def confTextsUptoRow : OpenClaim := { program := "ytegdeobjfdiilaa", sum := "d6634ecdd6e9c0b59fb090a3cb8d4f58ea248ccc474d6f2fcd5f2426a08c8cbf", func := "hearth/hearthlaw09.ConfTexts", spec := "confTexts", apart := false, narrowed := true }
def ConfTextsUptoSaid : Prop := confTextsUptoRow.holds Try.pinned (OpenSpec.upto confTextsSpec)

/-- 'hearthlaw11.TrackPlays', WHERE WHAT IT READS IS OF BULK AT MOST 1048576: true; the input reads as it did. -/
def trackPlaysUptoRow : OpenClaim := { program := "ytegdeobjfdiilaa", sum := "d6634ecdd6e9c0b59fb090a3cb8d4f58ea248ccc474d6f2fcd5f2426a08c8cbf", func := "hearth/hearthlaw11.TrackPlays", spec := "trackPlays", apart := false, narrowed := true }
def TrackPlaysUptoSaid : Prop := trackPlaysUptoRow.holds Try.pinned (OpenSpec.upto trackPlaysSpec)

/-- 'hearthlaw11.TrackOver', WHERE WHAT IT READS IS OF BULK AT MOST 1048576: true; the input reads as it did. -/
def trackOverUptoRow : OpenClaim := { program := "ytegdeobjfdiilaa", sum := "d6634ecdd6e9c0b59fb090a3cb8d4f58ea248ccc474d6f2fcd5f2426a08c8cbf", func := "hearth/hearthlaw11.TrackOver", spec := "trackOver", apart := false, narrowed := true }
def TrackOverUptoSaid : Prop := trackOverUptoRow.holds Try.pinned (OpenSpec.upto trackOverSpec)

/-- 'hearthlaw11.TrackBegins', WHERE WHAT IT READS IS OF BULK AT MOST 1048576: true; the input reads as it did. -/
def trackBeginsUptoRow : OpenClaim := { program := "ytegdeobjfdiilaa", sum := "d6634ecdd6e9c0b59fb090a3cb8d4f58ea248ccc474d6f2fcd5f2426a08c8cbf", func := "hearth/hearthlaw11.TrackBegins", spec := "trackBegins", apart := false, narrowed := true }
def TrackBeginsUptoSaid : Prop := trackBeginsUptoRow.holds Try.pinned (OpenSpec.upto trackBeginsSpec)

/-- 'hearthlaw11.TrackLasts', WHERE WHAT IT READS IS OF BULK AT MOST 1048576: true; the input reads as it did. -/
def trackLastsUptoRow : OpenClaim := { program := "ytegdeobjfdiilaa", sum := "d6634ecdd6e9c0b59fb090a3cb8d4f58ea248ccc474d6f2fcd5f2426a08c8cbf", func := "hearth/hearthlaw11.TrackLasts", spec := "trackLasts", apart := false, narrowed := true }
def TrackLastsUptoSaid : Prop := trackLastsUptoRow.holds Try.pinned (OpenSpec.upto trackLastsSpec)

/-- 'hearthlaw09.ConfOne', WHERE WHAT IT READS IS OF BULK AT MOST 1048576: true; the input reads as it did. -/
def confOneUptoRow : OpenClaim := { program := "ytegdeobjfdiilaa", sum := "d6634ecdd6e9c0b59fb090a3cb8d4f58ea248ccc474d6f2fcd5f2426a08c8cbf", func := "hearth/hearthlaw09.ConfOne", spec := "confOne", apart := false, narrowed := true }
def ConfOneUptoSaid : Prop := confOneUptoRow.holds Try.pinned (OpenSpec.upto confOneSpec)

/-- 'hearthlaw09.ConfChecks', WHERE WHAT IT READS IS OF BULK AT MOST 1048576: true; the input reads as it did. -/
def confChecksUptoRow : OpenClaim := { program := "ytegdeobjfdiilaa", sum := "d6634ecdd6e9c0b59fb090a3cb8d4f58ea248ccc474d6f2fcd5f2426a08c8cbf", func := "hearth/hearthlaw09.ConfChecks", spec := "confChecks", apart := false, narrowed := true }
def ConfChecksUptoSaid : Prop := confChecksUptoRow.holds Try.pinned (OpenSpec.upto confChecksSpec)

end Rows
end Go.Proofs.Ytegdeobjfdiilaa
