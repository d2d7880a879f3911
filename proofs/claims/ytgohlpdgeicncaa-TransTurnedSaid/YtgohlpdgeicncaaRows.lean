/-
  No cell of these rows narrows 'for every input' (looked for: loops, veiled, ifaces, maps, wideKeys, modest, calm, conditions, laid).
  DERIVED. THE GIVEN ROWS OF THIS SEAT. 10 by the template 'for every input the law returns true; each argument reads behind the call as it read before'; 0 by the template 'total and deterministic' (their statements: YtgohlpdgeicncaaTotals.lean).
  GIVEN WITH THE SEED: the statements are not yours to turn. If you find one false, say at which input.
  Laid BY PROGRAM, IN A SANDBOX (cutbox-rows.mjs): the forced cells as the released guide's own fill.sh prints them over the translation 2317dec39c8199e6… (all of the seat's roots in one cut). By AI agents, Wed Nov 11 2026. No macro, syntax, notation, axiom, sorry.
-/
import Derived.Test.YtgohlpdgeicncaaChecked
import GoSem.Claim
import GoSem.ClaimJoined
import GoSem.ClaimMapViews
import Derived.JoinedTies
import Derived.KernelRfl
namespace Go.Proofs.Ytgohlpdgeicncaa
/- THE CELL 'sum', in the pinned program and in every row, IS THE sha256 OF THE DUMP (.gsa) THAT YtgohlpdgeicncaaProg.lean LOADS. Nothing in Lean hashes anything: it is a label: what it is worth is what the hold of that sum in a sandbox is worth. -/
noncomputable def Try.pinned : Pinned := { name := "ytgohlpdgeicncaa", sum := "2317dec39c8199e60bfd3a26416e738f71d43e97b89e6d51a3f8f2bf2daed89f", checked := Try.checked }
namespace Rows
def none {H : Type} : Left H := { results := [], args := [] }

/-- 'hearthlaw05.TransDatagrams': WHATEVER THE INPUT: true; the input reads as it did. -/
def transDatagramsSpec : ChangeSpec := { name := "transDatagrams", fn := fun _ => fun
  | [d1, d2, d3] => { results := [.lit (.bool true)], args := [d1, d2, d3] }
  | _ => none }
def transDatagramsRow : OpenClaim := { program := "ytgohlpdgeicncaa", sum := "2317dec39c8199e60bfd3a26416e738f71d43e97b89e6d51a3f8f2bf2daed89f", func := "hearth/hearthlaw05.TransDatagrams", spec := "transDatagrams", inPlace := ["internal/bytealg.MakeNoZero"], unfollowed := true, recurses := true, apart := false }
def TransDatagramsSaid : Prop := transDatagramsRow.holds Try.pinned (OpenSpec.ofChange transDatagramsSpec)

/-- ITS FALSE NEIGHBOUR: 'it returns false'. Refute it at one input. -/
def transDatagramsWrong : ChangeSpec := { name := "transDatagrams", fn := fun _ => fun
  | [d1, d2, d3] => { results := [.lit (.bool false)], args := [d1, d2, d3] }
  | _ => none }
def TransDatagramsWrongFalsely : Prop := transDatagramsRow.holds Try.pinned (OpenSpec.ofChange transDatagramsWrong)

/-- 'hearthlaw05.TransPlain': WHATEVER THE INPUT: true; the input reads as it did. -/
def transPlainSpec : ChangeSpec := { name := "transPlain", fn := fun _ => fun
  | [d1, d2, d3] => { results := [.lit (.bool true)], args := [d1, d2, d3] }
  | _ => none }
def transPlainRow : OpenClaim := { program := "ytgohlpdgeicncaa", sum := "2317dec39c8199e60bfd3a26416e738f71d43e97b89e6d51a3f8f2bf2daed89f", func := "hearth/hearthlaw05.TransPlain", spec := "transPlain", inPlace := ["internal/bytealg.MakeNoZero"], unfollowed := true, recurses := true, apart := false }
def TransPlainSaid : Prop := transPlainRow.holds Try.pinned (OpenSpec.ofChange transPlainSpec)

/-- ITS FALSE NEIGHBOUR: 'it returns false'. Refute it at one input. -/
def transPlainWrong : ChangeSpec := { name := "transPlain", fn := fun _ => fun
  | [d1, d2, d3] => { results := [.lit (.bool false)], args := [d1, d2, d3] }
  | _ => none }
def TransPlainWrongFalsely : Prop := transPlainRow.holds Try.pinned (OpenSpec.ofChange transPlainWrong)

/-- 'hearthlaw05.TransMessages': WHATEVER THE INPUT: true; the input reads as it did. -/
def transMessagesSpec : ChangeSpec := { name := "transMessages", fn := fun _ => fun
  | [d] => { results := [.lit (.bool true)], args := [d] }
  | _ => none }
def transMessagesRow : OpenClaim := { program := "ytgohlpdgeicncaa", sum := "2317dec39c8199e60bfd3a26416e738f71d43e97b89e6d51a3f8f2bf2daed89f", func := "hearth/hearthlaw05.TransMessages", spec := "transMessages", inPlace := ["internal/bytealg.MakeNoZero"], unfollowed := true, recurses := true, apart := false }
def TransMessagesSaid : Prop := transMessagesRow.holds Try.pinned (OpenSpec.ofChange transMessagesSpec)

/-- ITS FALSE NEIGHBOUR: 'it returns false'. Refute it at one input. -/
def transMessagesWrong : ChangeSpec := { name := "transMessages", fn := fun _ => fun
  | [d] => { results := [.lit (.bool false)], args := [d] }
  | _ => none }
def TransMessagesWrongFalsely : Prop := transMessagesRow.holds Try.pinned (OpenSpec.ofChange transMessagesWrong)

/-- 'hearthlaw05.TransSegments': WHATEVER THE INPUT: true; the input reads as it did. -/
def transSegmentsSpec : ChangeSpec := { name := "transSegments", fn := fun _ => fun
  | [d1, d2, d3] => { results := [.lit (.bool true)], args := [d1, d2, d3] }
  | _ => none }
def transSegmentsRow : OpenClaim := { program := "ytgohlpdgeicncaa", sum := "2317dec39c8199e60bfd3a26416e738f71d43e97b89e6d51a3f8f2bf2daed89f", func := "hearth/hearthlaw05.TransSegments", spec := "transSegments", inPlace := ["internal/bytealg.MakeNoZero"], unfollowed := true, recurses := true, apart := false }
def TransSegmentsSaid : Prop := transSegmentsRow.holds Try.pinned (OpenSpec.ofChange transSegmentsSpec)

/-- ITS FALSE NEIGHBOUR: 'it returns false'. Refute it at one input. -/
def transSegmentsWrong : ChangeSpec := { name := "transSegments", fn := fun _ => fun
  | [d1, d2, d3] => { results := [.lit (.bool false)], args := [d1, d2, d3] }
  | _ => none }
def TransSegmentsWrongFalsely : Prop := transSegmentsRow.holds Try.pinned (OpenSpec.ofChange transSegmentsWrong)

/-- 'hearthlaw05.TransTurned': WHATEVER THE INPUT: true; the input reads as it did. -/
def transTurnedSpec : ChangeSpec := { name := "transTurned", fn := fun _ => fun
  | [d1, d2, d3, d4] => { results := [.lit (.bool true)], args := [d1, d2, d3, d4] }
  | _ => none }
def transTurnedRow : OpenClaim := { program := "ytgohlpdgeicncaa", sum := "2317dec39c8199e60bfd3a26416e738f71d43e97b89e6d51a3f8f2bf2daed89f", func := "hearth/hearthlaw05.TransTurned", spec := "transTurned", inPlace := ["internal/bytealg.MakeNoZero"], unfollowed := true, recurses := true, apart := false }
def TransTurnedSaid : Prop := transTurnedRow.holds Try.pinned (OpenSpec.ofChange transTurnedSpec)

/-- ITS FALSE NEIGHBOUR: 'it returns false'. Refute it at one input. -/
def transTurnedWrong : ChangeSpec := { name := "transTurned", fn := fun _ => fun
  | [d1, d2, d3, d4] => { results := [.lit (.bool false)], args := [d1, d2, d3, d4] }
  | _ => none }
def TransTurnedWrongFalsely : Prop := transTurnedRow.holds Try.pinned (OpenSpec.ofChange transTurnedWrong)

/-- 'hearthlaw13.IcmpSizes': WHATEVER THE INPUT: true; the input reads as it did. -/
def icmpSizesSpec : ChangeSpec := { name := "icmpSizes", fn := fun _ => fun
  | [d1, d2, d3] => { results := [.lit (.bool true)], args := [d1, d2, d3] }
  | _ => none }
def icmpSizesRow : OpenClaim := { program := "ytgohlpdgeicncaa", sum := "2317dec39c8199e60bfd3a26416e738f71d43e97b89e6d51a3f8f2bf2daed89f", func := "hearth/hearthlaw13.IcmpSizes", spec := "icmpSizes", inPlace := ["internal/bytealg.MakeNoZero"], unfollowed := true, recurses := true, apart := false }
def IcmpSizesSaid : Prop := icmpSizesRow.holds Try.pinned (OpenSpec.ofChange icmpSizesSpec)

/-- ITS FALSE NEIGHBOUR: 'it returns false'. Refute it at one input. -/
def icmpSizesWrong : ChangeSpec := { name := "icmpSizes", fn := fun _ => fun
  | [d1, d2, d3] => { results := [.lit (.bool false)], args := [d1, d2, d3] }
  | _ => none }
def IcmpSizesWrongFalsely : Prop := icmpSizesRow.holds Try.pinned (OpenSpec.ofChange icmpSizesWrong)

/-- 'hearthlaw13.IcmpEchoes': WHATEVER THE INPUT: true; the input reads as it did. -/
def icmpEchoesSpec : ChangeSpec := { name := "icmpEchoes", fn := fun _ => fun
  | [d1, d2, d3, d4] => { results := [.lit (.bool true)], args := [d1, d2, d3, d4] }
  | _ => none }
def icmpEchoesRow : OpenClaim := { program := "ytgohlpdgeicncaa", sum := "2317dec39c8199e60bfd3a26416e738f71d43e97b89e6d51a3f8f2bf2daed89f", func := "hearth/hearthlaw13.IcmpEchoes", spec := "icmpEchoes", inPlace := ["internal/bytealg.MakeNoZero"], unfollowed := true, recurses := true, apart := false }
def IcmpEchoesSaid : Prop := icmpEchoesRow.holds Try.pinned (OpenSpec.ofChange icmpEchoesSpec)

/-- ITS FALSE NEIGHBOUR: 'it returns false'. Refute it at one input. -/
def icmpEchoesWrong : ChangeSpec := { name := "icmpEchoes", fn := fun _ => fun
  | [d1, d2, d3, d4] => { results := [.lit (.bool false)], args := [d1, d2, d3, d4] }
  | _ => none }
def IcmpEchoesWrongFalsely : Prop := icmpEchoesRow.holds Try.pinned (OpenSpec.ofChange icmpEchoesWrong)

/-- 'hearthlaw05.TransReads': WHATEVER THE INPUT: true; the input reads as it did. -/
def transReadsSpec : ChangeSpec := { name := "transReads", fn := fun _ => fun
  | [d1, d2, d3] => { results := [.lit (.bool true)], args := [d1, d2, d3] }
  | _ => none }
def transReadsRow : OpenClaim := { program := "ytgohlpdgeicncaa", sum := "2317dec39c8199e60bfd3a26416e738f71d43e97b89e6d51a3f8f2bf2daed89f", func := "hearth/hearthlaw05.TransReads", spec := "transReads", inPlace := ["internal/bytealg.MakeNoZero"], unfollowed := true, recurses := true, apart := false }
def TransReadsSaid : Prop := transReadsRow.holds Try.pinned (OpenSpec.ofChange transReadsSpec)

/-- ITS FALSE NEIGHBOUR: 'it returns false'. Refute it at one input. -/
def transReadsWrong : ChangeSpec := { name := "transReads", fn := fun _ => fun
  | [d1, d2, d3] => { results := [.lit (.bool false)], args := [d1, d2, d3] }
  | _ => none }
def TransReadsWrongFalsely : Prop := transReadsRow.holds Try.pinned (OpenSpec.ofChange transReadsWrong)

/-- 'hearthlaw13.IcmpTells': WHATEVER THE INPUT: true; the input reads as it did. -/
def icmpTellsSpec : ChangeSpec := { name := "icmpTells", fn := fun _ => fun
  | [d1, d2, d3] => { results := [.lit (.bool true)], args := [d1, d2, d3] }
  | _ => none }
def icmpTellsRow : OpenClaim := { program := "ytgohlpdgeicncaa", sum := "2317dec39c8199e60bfd3a26416e738f71d43e97b89e6d51a3f8f2bf2daed89f", func := "hearth/hearthlaw13.IcmpTells", spec := "icmpTells", inPlace := ["internal/bytealg.MakeNoZero"], unfollowed := true, recurses := true, apart := false }
def IcmpTellsSaid : Prop := icmpTellsRow.holds Try.pinned (OpenSpec.ofChange icmpTellsSpec)

/-- ITS FALSE NEIGHBOUR: 'it returns false'. Refute it at one input. -/
def icmpTellsWrong : ChangeSpec := { name := "icmpTells", fn := fun _ => fun
  | [d1, d2, d3] => { results := [.lit (.bool false)], args := [d1, d2, d3] }
  | _ => none }
def IcmpTellsWrongFalsely : Prop := icmpTellsRow.holds Try.pinned (OpenSpec.ofChange icmpTellsWrong)

/-- 'hearthlaw13.IcmpGoes': WHATEVER THE INPUT: true; the input reads as it did. -/
def icmpGoesSpec : ChangeSpec := { name := "icmpGoes", fn := fun _ => fun
  | [d1, d2, d3] => { results := [.lit (.bool true)], args := [d1, d2, d3] }
  | _ => none }
def icmpGoesRow : OpenClaim := { program := "ytgohlpdgeicncaa", sum := "2317dec39c8199e60bfd3a26416e738f71d43e97b89e6d51a3f8f2bf2daed89f", func := "hearth/hearthlaw13.IcmpGoes", spec := "icmpGoes", inPlace := ["internal/bytealg.MakeNoZero"], unfollowed := true, recurses := true, apart := false }
def IcmpGoesSaid : Prop := icmpGoesRow.holds Try.pinned (OpenSpec.ofChange icmpGoesSpec)

/-- ITS FALSE NEIGHBOUR: 'it returns false'. Refute it at one input. -/
def icmpGoesWrong : ChangeSpec := { name := "icmpGoes", fn := fun _ => fun
  | [d1, d2, d3] => { results := [.lit (.bool false)], args := [d1, d2, d3] }
  | _ => none }
def IcmpGoesWrongFalsely : Prop := icmpGoesRow.holds Try.pinned (OpenSpec.ofChange icmpGoesWrong)

/- THE SECOND FORM. 'bulk': how many values and letters a reading holds, each counted each time it is reached (what is shared counts as often as it is met; a slice's spare places count too). A statement '..UptoSaid' is the law's where the arguments, and the package variables that the reading takes, are together of bulk at most 1048576: NARROWER than '..Said'. Prove '..Said' where nothing that the law and all that it calls make is longer than what came in: it says more and counts as full. Else prove '..UptoSaid'. A law counts once. -/
mutual
def uptoBulk {H : Type} : DataW H → Nat
  | .lit (.string bytes) => bytes.length + 1
  | .lit _ => 1
  | .nil => 1
  | .ptr d => uptoBulk d + 1
  | .slice elems spare => uptoBulkAll elems + uptoBulkAll spare + 1
  | .agg parts => uptoBulkAll parts + 1
  | .iface _ d => uptoBulk d + 1
  | .map entries => uptoBulkEntries entries + 1
  | .held _ => 1
def uptoBulkAll {H : Type} : List (DataW H) → Nat
  | [] => 0
  | d :: r => uptoBulk d + uptoBulkAll r
def uptoBulkEntries {H : Type} : List (Lit × DataW H) → Nat
  | [] => 0
  | x :: r => uptoBulkEntry x + uptoBulkEntries r
def uptoBulkEntry {H : Type} : Lit × DataW H → Nat
  | (.string bytes, d) => bytes.length + uptoBulk d + 1
  | (_, d) => uptoBulk d + 1
 end
def uptoSmall : (H : Type) → List (DataW H) → Bool := fun _ ds => decide (uptoBulkAll ds ≤ 1048576)
def OpenSpec.upto (s : _root_.Go.ChangeSpec) : _root_.Go.OpenSpec := { _root_.Go.OpenSpec.ofChange s with cond := some uptoSmall }

/-- 'hearthlaw05.TransDatagrams', WHERE WHAT IT READS IS OF BULK AT MOST 1048576: true; the input reads as it did. -/
def transDatagramsUptoRow : OpenClaim := { program := "ytgohlpdgeicncaa", sum := "2317dec39c8199e60bfd3a26416e738f71d43e97b89e6d51a3f8f2bf2daed89f", func := "hearth/hearthlaw05.TransDatagrams", spec := "transDatagrams", inPlace := ["internal/bytealg.MakeNoZero"], unfollowed := true, recurses := true, apart := false, narrowed := true }
def TransDatagramsUptoSaid : Prop := transDatagramsUptoRow.holds Try.pinned (OpenSpec.upto transDatagramsSpec)

/-- 'hearthlaw05.TransPlain', WHERE WHAT IT READS IS OF BULK AT MOST 1048576: true; the input reads as it did. -/
def transPlainUptoRow : OpenClaim := { program := "ytgohlpdgeicncaa", sum := "2317dec39c8199e60bfd3a26416e738f71d43e97b89e6d51a3f8f2bf2daed89f", func := "hearth/hearthlaw05.TransPlain", spec := "transPlain", inPlace := ["internal/bytealg.MakeNoZero"], unfollowed := true, recurses := true, apart := false, narrowed := true }
def TransPlainUptoSaid : Prop := transPlainUptoRow.holds Try.pinned (OpenSpec.upto transPlainSpec)

/-- 'hearthlaw05.TransMessages', WHERE WHAT IT READS IS OF BULK AT MOST 1048576: true; the input reads as it did. -/
def transMessagesUptoRow : OpenClaim := { program := "ytgohlpdgeicncaa", sum := "2317dec39c8199e60bfd3a26416e738f71d43e97b89e6d51a3f8f2bf2daed89f", func := "hearth/hearthlaw05.TransMessages", spec := "transMessages", inPlace := ["internal/bytealg.MakeNoZero"], unfollowed := true, recurses := true, apart := false, narrowed := true }
def TransMessagesUptoSaid : Prop := transMessagesUptoRow.holds Try.pinned (OpenSpec.upto transMessagesSpec)

/-- 'hearthlaw05.TransSegments', WHERE WHAT IT READS IS OF BULK AT MOST 1048576: true; the input reads as it did. -/
def transSegmentsUptoRow : OpenClaim := { program := "ytgohlpdgeicncaa", sum := "2317dec39c8199e60bfd3a26416e738f71d43e97b89e6d51a3f8f2bf2daed89f", func := "hearth/hearthlaw05.TransSegments", spec := "transSegments", inPlace := ["internal/bytealg.MakeNoZero"], unfollowed := true, recurses := true, apart := false, narrowed := true }
def TransSegmentsUptoSaid : Prop := transSegmentsUptoRow.holds Try.pinned (OpenSpec.upto transSegmentsSpec)

/-- 'hearthlaw05.TransTurned', WHERE WHAT IT READS IS OF BULK AT MOST 1048576: true; the input reads as it did. -/
def transTurnedUptoRow : OpenClaim := { program := "ytgohlpdgeicncaa", sum := "2317dec39c8199e60bfd3a26416e738f71d43e97b89e6d51a3f8f2bf2daed89f", func := "hearth/hearthlaw05.TransTurned", spec := "transTurned", inPlace := ["internal/bytealg.MakeNoZero"], unfollowed := true, recurses := true, apart := false, narrowed := true }
def TransTurnedUptoSaid : Prop := transTurnedUptoRow.holds Try.pinned (OpenSpec.upto transTurnedSpec)

/-- 'hearthlaw13.IcmpSizes', WHERE WHAT IT READS IS OF BULK AT MOST 1048576: true; the input reads as it did. -/
def icmpSizesUptoRow : OpenClaim := { program := "ytgohlpdgeicncaa", sum := "2317dec39c8199e60bfd3a26416e738f71d43e97b89e6d51a3f8f2bf2daed89f", func := "hearth/hearthlaw13.IcmpSizes", spec := "icmpSizes", inPlace := ["internal/bytealg.MakeNoZero"], unfollowed := true, recurses := true, apart := false, narrowed := true }
def IcmpSizesUptoSaid : Prop := icmpSizesUptoRow.holds Try.pinned (OpenSpec.upto icmpSizesSpec)

/-- 'hearthlaw13.IcmpEchoes', WHERE WHAT IT READS IS OF BULK AT MOST 1048576: true; the input reads as it did. -/
def icmpEchoesUptoRow : OpenClaim := { program := "ytgohlpdgeicncaa", sum := "2317dec39c8199e60bfd3a26416e738f71d43e97b89e6d51a3f8f2bf2daed89f", func := "hearth/hearthlaw13.IcmpEchoes", spec := "icmpEchoes", inPlace := ["internal/bytealg.MakeNoZero"], unfollowed := true, recurses := true, apart := false, narrowed := true }
def IcmpEchoesUptoSaid : Prop := icmpEchoesUptoRow.holds Try.pinned (OpenSpec.upto icmpEchoesSpec)

/-- 'hearthlaw05.TransReads', WHERE WHAT IT READS IS OF BULK AT MOST 1048576: true; the input reads as it did. -/
def transReadsUptoRow : OpenClaim := { program := "ytgohlpdgeicncaa", sum := "2317dec39c8199e60bfd3a26416e738f71d43e97b89e6d51a3f8f2bf2daed89f", func := "hearth/hearthlaw05.TransReads", spec := "transReads", inPlace := ["internal/bytealg.MakeNoZero"], unfollowed := true, recurses := true, apart := false, narrowed := true }
def TransReadsUptoSaid : Prop := transReadsUptoRow.holds Try.pinned (OpenSpec.upto transReadsSpec)

/-- 'hearthlaw13.IcmpTells', WHERE WHAT IT READS IS OF BULK AT MOST 1048576: true; the input reads as it did. -/
def icmpTellsUptoRow : OpenClaim := { program := "ytgohlpdgeicncaa", sum := "2317dec39c8199e60bfd3a26416e738f71d43e97b89e6d51a3f8f2bf2daed89f", func := "hearth/hearthlaw13.IcmpTells", spec := "icmpTells", inPlace := ["internal/bytealg.MakeNoZero"], unfollowed := true, recurses := true, apart := false, narrowed := true }
def IcmpTellsUptoSaid : Prop := icmpTellsUptoRow.holds Try.pinned (OpenSpec.upto icmpTellsSpec)

/-- 'hearthlaw13.IcmpGoes', WHERE WHAT IT READS IS OF BULK AT MOST 1048576: true; the input reads as it did. -/
def icmpGoesUptoRow : OpenClaim := { program := "ytgohlpdgeicncaa", sum := "2317dec39c8199e60bfd3a26416e738f71d43e97b89e6d51a3f8f2bf2daed89f", func := "hearth/hearthlaw13.IcmpGoes", spec := "icmpGoes", inPlace := ["internal/bytealg.MakeNoZero"], unfollowed := true, recurses := true, apart := false, narrowed := true }
def IcmpGoesUptoSaid : Prop := icmpGoesUptoRow.holds Try.pinned (OpenSpec.upto icmpGoesSpec)

end Rows
end Go.Proofs.Ytgohlpdgeicncaa
