/-
  No cell of these rows narrows 'for every input' (looked for: loops, veiled, ifaces, maps, wideKeys, modest, calm, conditions, laid).
  DERIVED. THE GIVEN ROWS OF THIS SEAT. 3 by the template 'for every input the law returns true; each argument reads behind the call as it read before'; 0 by the template 'total and deterministic' (their statements: YtnhmajdpjapgjaaTotals.lean).
  GIVEN WITH THE SEED: the statements are not yours to turn. If you find one false, say at which input.
  Laid BY PROGRAM, IN A SANDBOX (cutbox-rows.mjs): the forced cells as the released guide's own fill.sh prints them over the translation 7375ea0102bb1cb6… (all of the seat's roots in one cut). By AI agents, Wed Nov 11 2026. No macro, syntax, notation, axiom, sorry.
-/
import Derived.Test.YtnhmajdpjapgjaaChecked
import GoSem.Claim
import GoSem.ClaimJoined
import GoSem.ClaimMapViews
import Derived.JoinedTies
import Derived.KernelRfl
namespace Go.Proofs.Ytnhmajdpjapgjaa
/- THE CELL 'sum', in the pinned program and in every row, IS THE sha256 OF THE DUMP (.gsa) THAT YtnhmajdpjapgjaaProg.lean LOADS. Nothing in Lean hashes anything: it is a label: what it is worth is what the hold of that sum in a sandbox is worth. -/
noncomputable def Try.pinned : Pinned := { name := "ytnhmajdpjapgjaa", sum := "7375ea0102bb1cb6a8973987529f90d7d72c500ed2fb7fe900937a041d29c237", checked := Try.checked }
namespace Rows
def none {H : Type} : Left H := { results := [], args := [] }

/-- 'hearthlaw03.EtherNames': WHATEVER THE INPUT: true; the input reads as it did. -/
def etherNamesSpec : ChangeSpec := { name := "etherNames", fn := fun _ => fun
  | [] => { results := [.lit (.bool true)], args := [] }
  | _ => none }
def etherNamesRow : OpenClaim := { program := "ytnhmajdpjapgjaa", sum := "7375ea0102bb1cb6a8973987529f90d7d72c500ed2fb7fe900937a041d29c237", func := "hearth/hearthlaw03.EtherNames", spec := "etherNames", inPlace := ["internal/bytealg.MakeNoZero"], apart := false }
def EtherNamesSaid : Prop := etherNamesRow.holds Try.pinned (OpenSpec.ofChange etherNamesSpec)

/-- ITS FALSE NEIGHBOUR: 'it returns false'. Refute it at one input. -/
def etherNamesWrong : ChangeSpec := { name := "etherNames", fn := fun _ => fun
  | [] => { results := [.lit (.bool false)], args := [] }
  | _ => none }
def EtherNamesWrongFalsely : Prop := etherNamesRow.holds Try.pinned (OpenSpec.ofChange etherNamesWrong)

/-- 'hearthlaw03.EtherWrites': WHATEVER THE INPUT: true; the input reads as it did. -/
def etherWritesSpec : ChangeSpec := { name := "etherWrites", fn := fun _ => fun
  | [d] => { results := [.lit (.bool true)], args := [d] }
  | _ => none }
def etherWritesRow : OpenClaim := { program := "ytnhmajdpjapgjaa", sum := "7375ea0102bb1cb6a8973987529f90d7d72c500ed2fb7fe900937a041d29c237", func := "hearth/hearthlaw03.EtherWrites", spec := "etherWrites", inPlace := ["internal/bytealg.MakeNoZero"], apart := false }
def EtherWritesSaid : Prop := etherWritesRow.holds Try.pinned (OpenSpec.ofChange etherWritesSpec)

/-- ITS FALSE NEIGHBOUR: 'it returns false'. Refute it at one input. -/
def etherWritesWrong : ChangeSpec := { name := "etherWrites", fn := fun _ => fun
  | [d] => { results := [.lit (.bool false)], args := [d] }
  | _ => none }
def EtherWritesWrongFalsely : Prop := etherWritesRow.holds Try.pinned (OpenSpec.ofChange etherWritesWrong)

/-- 'hearthlaw03.EtherReads': WHATEVER THE INPUT: true; the input reads as it did. -/
def etherReadsSpec : ChangeSpec := { name := "etherReads", fn := fun _ => fun
  | [d] => { results := [.lit (.bool true)], args := [d] }
  | _ => none }
def etherReadsRow : OpenClaim := { program := "ytnhmajdpjapgjaa", sum := "7375ea0102bb1cb6a8973987529f90d7d72c500ed2fb7fe900937a041d29c237", func := "hearth/hearthlaw03.EtherReads", spec := "etherReads", inPlace := ["internal/bytealg.MakeNoZero"], apart := false }
def EtherReadsSaid : Prop := etherReadsRow.holds Try.pinned (OpenSpec.ofChange etherReadsSpec)

/-- ITS FALSE NEIGHBOUR: 'it returns false'. Refute it at one input. -/
def etherReadsWrong : ChangeSpec := { name := "etherReads", fn := fun _ => fun
  | [d] => { results := [.lit (.bool false)], args := [d] }
  | _ => none }
def EtherReadsWrongFalsely : Prop := etherReadsRow.holds Try.pinned (OpenSpec.ofChange etherReadsWrong)

/- THE SECOND FORM. 'bulk': how many values and letters a reading holds, each counted each time it is reached (what is shared counts as often as it is met; a slice's spare places count too). A statement '..UptoSaid' is the law's where the arguments, and the package variables that the reading takes, are together of bulk at most 1048576: NARROWER than '..Said'. Prove '..Said' where nothing that the law and all that it calls make is longer than what came in: it says more and counts as full. Else prove '..UptoSaid'. A law counts once. -/
mutual
def uptoBulk {H : Type} : DataW H → Nat
  | .lit (.string bytes) => bytes.length + 1
  | .lit _ => 1
  | .nil => 1
  | .ptr d => uptoBulk d + 1
  | .slice elems spare => uptoBulkAll elems + uptoBulkAll spare + 1
  | .agg parts => uptoBulkAll parts + 1
  | .iface _ d => uptoBulk d + 1
  | .map entries => uptoBulkEntries entries + 1
  | .held _ => 1
def uptoBulkAll {H : Type} : List (DataW H) → Nat
  | [] => 0
  | d :: r => uptoBulk d + uptoBulkAll r
def uptoBulkEntries {H : Type} : List (Lit × DataW H) → Nat
  | [] => 0
  | x :: r => uptoBulkEntry x + uptoBulkEntries r
def uptoBulkEntry {H : Type} : Lit × DataW H → Nat
  | (.string bytes, d) => bytes.length + uptoBulk d + 1
  | (_, d) => uptoBulk d + 1
 end
def uptoSmall : (H : Type) → List (DataW H) → Bool := fun _ ds => decide (uptoBulkAll ds ≤ 1048576)
def OpenSpec.upto (s : _root_.Go.ChangeSpec) : _root_.Go.OpenSpec := { _root_.Go.OpenSpec.ofChange s with cond := some uptoSmall }

/-- 'hearthlaw03.EtherNames', WHERE WHAT IT READS IS OF BULK AT MOST 1048576: true; the input reads as it did. -/
def etherNamesUptoRow : OpenClaim := { program := "ytnhmajdpjapgjaa", sum := "7375ea0102bb1cb6a8973987529f90d7d72c500ed2fb7fe900937a041d29c237", func := "hearth/hearthlaw03.EtherNames", spec := "etherNames", inPlace := ["internal/bytealg.MakeNoZero"], apart := false, narrowed := true }
def EtherNamesUptoSaid : Prop := etherNamesUptoRow.holds Try.pinned (OpenSpec.upto etherNamesSpec)

/-- 'hearthlaw03.EtherWrites', WHERE WHAT IT READS IS OF BULK AT MOST 1048576: true; the input reads as it did. -/
def etherWritesUptoRow : OpenClaim := { program := "ytnhmajdpjapgjaa", sum := "7375ea0102bb1cb6a8973987529f90d7d72c500ed2fb7fe900937a041d29c237", func := "hearth/hearthlaw03.EtherWrites", spec := "etherWrites", inPlace := ["internal/bytealg.MakeNoZero"], apart := false, narrowed := true }
def EtherWritesUptoSaid : Prop := etherWritesUptoRow.holds Try.pinned (OpenSpec.upto etherWritesSpec)

/-- 'hearthlaw03.EtherReads', WHERE WHAT IT READS IS OF BULK AT MOST 1048576: true; the input reads as it did. -/
def etherReadsUptoRow : OpenClaim := { program := "ytnhmajdpjapgjaa", sum := "7375ea0102bb1cb6a8973987529f90d7d72c500ed2fb7fe900937a041d29c237", func := "hearth/hearthlaw03.EtherReads", spec := "etherReads", inPlace := ["internal/bytealg.MakeNoZero"], apart := false, narrowed := true }
def EtherReadsUptoSaid : Prop := etherReadsUptoRow.holds Try.pinned (OpenSpec.upto etherReadsSpec)

end Rows
end Go.Proofs.Ytnhmajdpjapgjaa
