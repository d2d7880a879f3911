/-
  No cell of these rows narrows 'for every input' (looked for: loops, veiled, ifaces, maps, wideKeys, modest, calm, conditions, laid).
  DERIVED. THE GIVEN ROWS OF THIS SEAT. 10 by the template 'for every input the law returns true; each argument reads behind the call as it read before'; 0 by the template 'total and deterministic' (their statements: YtegeijaicjackaaTotals.lean).
  GIVEN WITH THE SEED: the statements are not yours to turn. If you find one false, say at which input.
  Laid BY PROGRAM, IN A SANDBOX (cutbox-rows.mjs): the forced cells as the released guide's own fill.sh prints them over the translation dabbbd9a03d65bc4… (all of the seat's roots in one cut). By AI agents, Wed Nov 11 2026. No macro, syntax, notation, axiom, sorry.
-/
import Derived.Test.YtegeijaicjackaaChecked
import GoSem.Claim
import GoSem.ClaimJoined
import GoSem.ClaimMapViews
import Derived.JoinedTies
import Derived.KernelRfl
namespace Go.Proofs.Ytegeijaicjackaa
/- THE CELL 'sum', in the pinned program and in every row, IS THE sha256 OF THE DUMP (.gsa) THAT YtegeijaicjackaaProg.lean LOADS. Nothing in Lean hashes anything: it is a label: what it is worth is what the hold of that sum in a sandbox is worth. -/
noncomputable def Try.pinned : Pinned := { name := "ytegeijaicjackaa", sum := "dabbbd9a03d65bc404c7827b8084265460d34787014e07b9f0bd8fff054c7e24", checked := Try.checked }
namespace Rows
def none {H : Type} : Left H := { results := [], args := [] }

/-- 'hearthlaw01.OctetPairs': WHATEVER THE INPUT: true; the input reads as it did. -/
def octetPairsSpec : ChangeSpec := { name := "octetPairs", fn := fun _ => fun
  | [d1, d2] => { results := [.lit (.bool true)], args := [d1, d2] }
  | _ => none }
def octetPairsRow : OpenClaim := { program := "ytegeijaicjackaa", sum := "dabbbd9a03d65bc404c7827b8084265460d34787014e07b9f0bd8fff054c7e24", func := "hearth/hearthlaw01.OctetPairs", spec := "octetPairs", unfollowed := true, recurses := true, apart := false }
def OctetPairsSaid : Prop := octetPairsRow.holds Try.pinned (OpenSpec.ofChange octetPairsSpec)

/-- ITS FALSE NEIGHBOUR: 'it returns false'. Refute it at one input. -/
def octetPairsWrong : ChangeSpec := { name := "octetPairs", fn := fun _ => fun
  | [d1, d2] => { results := [.lit (.bool false)], args := [d1, d2] }
  | _ => none }
def OctetPairsWrongFalsely : Prop := octetPairsRow.holds Try.pinned (OpenSpec.ofChange octetPairsWrong)

/-- 'hearthlaw01.OctetReads': WHATEVER THE INPUT: true; the input reads as it did. -/
def octetReadsSpec : ChangeSpec := { name := "octetReads", fn := fun _ => fun
  | [d1, d2] => { results := [.lit (.bool true)], args := [d1, d2] }
  | _ => none }
def octetReadsRow : OpenClaim := { program := "ytegeijaicjackaa", sum := "dabbbd9a03d65bc404c7827b8084265460d34787014e07b9f0bd8fff054c7e24", func := "hearth/hearthlaw01.OctetReads", spec := "octetReads", unfollowed := true, recurses := true, apart := false }
def OctetReadsSaid : Prop := octetReadsRow.holds Try.pinned (OpenSpec.ofChange octetReadsSpec)

/-- ITS FALSE NEIGHBOUR: 'it returns false'. Refute it at one input. -/
def octetReadsWrong : ChangeSpec := { name := "octetReads", fn := fun _ => fun
  | [d1, d2] => { results := [.lit (.bool false)], args := [d1, d2] }
  | _ => none }
def OctetReadsWrongFalsely : Prop := octetReadsRow.holds Try.pinned (OpenSpec.ofChange octetReadsWrong)

/-- 'hearthlaw01.OctetJoins': WHATEVER THE INPUT: true; the input reads as it did. -/
def octetJoinsSpec : ChangeSpec := { name := "octetJoins", fn := fun _ => fun
  | [d] => { results := [.lit (.bool true)], args := [d] }
  | _ => none }
def octetJoinsRow : OpenClaim := { program := "ytegeijaicjackaa", sum := "dabbbd9a03d65bc404c7827b8084265460d34787014e07b9f0bd8fff054c7e24", func := "hearth/hearthlaw01.OctetJoins", spec := "octetJoins", inPlace := ["internal/bytealg.MakeNoZero"], unfollowed := true, recurses := true, apart := false }
def OctetJoinsSaid : Prop := octetJoinsRow.holds Try.pinned (OpenSpec.ofChange octetJoinsSpec)

/-- ITS FALSE NEIGHBOUR: 'it returns false'. Refute it at one input. -/
def octetJoinsWrong : ChangeSpec := { name := "octetJoins", fn := fun _ => fun
  | [d] => { results := [.lit (.bool false)], args := [d] }
  | _ => none }
def OctetJoinsWrongFalsely : Prop := octetJoinsRow.holds Try.pinned (OpenSpec.ofChange octetJoinsWrong)

/-- 'hearthlaw01.OctetBack': WHATEVER THE INPUT: true; the input reads as it did. -/
def octetBackSpec : ChangeSpec := { name := "octetBack", fn := fun _ => fun
  | [d] => { results := [.lit (.bool true)], args := [d] }
  | _ => none }
def octetBackRow : OpenClaim := { program := "ytegeijaicjackaa", sum := "dabbbd9a03d65bc404c7827b8084265460d34787014e07b9f0bd8fff054c7e24", func := "hearth/hearthlaw01.OctetBack", spec := "octetBack", inPlace := ["internal/bytealg.MakeNoZero"], unfollowed := true, recurses := true, apart := false }
def OctetBackSaid : Prop := octetBackRow.holds Try.pinned (OpenSpec.ofChange octetBackSpec)

/-- ITS FALSE NEIGHBOUR: 'it returns false'. Refute it at one input. -/
def octetBackWrong : ChangeSpec := { name := "octetBack", fn := fun _ => fun
  | [d] => { results := [.lit (.bool false)], args := [d] }
  | _ => none }
def OctetBackWrongFalsely : Prop := octetBackRow.holds Try.pinned (OpenSpec.ofChange octetBackWrong)

/-- 'hearthlaw02.SumOrder': WHATEVER THE INPUT: true; the input reads as it did. -/
def sumOrderSpec : ChangeSpec := { name := "sumOrder", fn := fun _ => fun
  | [d1, d2, d3] => { results := [.lit (.bool true)], args := [d1, d2, d3] }
  | _ => none }
def sumOrderRow : OpenClaim := { program := "ytegeijaicjackaa", sum := "dabbbd9a03d65bc404c7827b8084265460d34787014e07b9f0bd8fff054c7e24", func := "hearth/hearthlaw02.SumOrder", spec := "sumOrder", inPlace := ["internal/bytealg.MakeNoZero"], unfollowed := true, recurses := true, apart := false }
def SumOrderSaid : Prop := sumOrderRow.holds Try.pinned (OpenSpec.ofChange sumOrderSpec)

/-- ITS FALSE NEIGHBOUR: 'it returns false'. Refute it at one input. -/
def sumOrderWrong : ChangeSpec := { name := "sumOrder", fn := fun _ => fun
  | [d1, d2, d3] => { results := [.lit (.bool false)], args := [d1, d2, d3] }
  | _ => none }
def SumOrderWrongFalsely : Prop := sumOrderRow.holds Try.pinned (OpenSpec.ofChange sumOrderWrong)

/-- 'hearthlaw02.SumSums': WHATEVER THE INPUT: true; the input reads as it did. -/
def sumSumsSpec : ChangeSpec := { name := "sumSums", fn := fun _ => fun
  | [d] => { results := [.lit (.bool true)], args := [d] }
  | _ => none }
def sumSumsRow : OpenClaim := { program := "ytegeijaicjackaa", sum := "dabbbd9a03d65bc404c7827b8084265460d34787014e07b9f0bd8fff054c7e24", func := "hearth/hearthlaw02.SumSums", spec := "sumSums", inPlace := ["internal/bytealg.MakeNoZero"], unfollowed := true, recurses := true, apart := false }
def SumSumsSaid : Prop := sumSumsRow.holds Try.pinned (OpenSpec.ofChange sumSumsSpec)

/-- ITS FALSE NEIGHBOUR: 'it returns false'. Refute it at one input. -/
def sumSumsWrong : ChangeSpec := { name := "sumSums", fn := fun _ => fun
  | [d] => { results := [.lit (.bool false)], args := [d] }
  | _ => none }
def SumSumsWrongFalsely : Prop := sumSumsRow.holds Try.pinned (OpenSpec.ofChange sumSumsWrong)

/-- 'hearthlaw02.SumRight': WHATEVER THE INPUT: true; the input reads as it did. -/
def sumRightSpec : ChangeSpec := { name := "sumRight", fn := fun _ => fun
  | [d1, d2] => { results := [.lit (.bool true)], args := [d1, d2] }
  | _ => none }
def sumRightRow : OpenClaim := { program := "ytegeijaicjackaa", sum := "dabbbd9a03d65bc404c7827b8084265460d34787014e07b9f0bd8fff054c7e24", func := "hearth/hearthlaw02.SumRight", spec := "sumRight", inPlace := ["internal/bytealg.MakeNoZero"], unfollowed := true, recurses := true, apart := false }
def SumRightSaid : Prop := sumRightRow.holds Try.pinned (OpenSpec.ofChange sumRightSpec)

/-- ITS FALSE NEIGHBOUR: 'it returns false'. Refute it at one input. -/
def sumRightWrong : ChangeSpec := { name := "sumRight", fn := fun _ => fun
  | [d1, d2] => { results := [.lit (.bool false)], args := [d1, d2] }
  | _ => none }
def SumRightWrongFalsely : Prop := sumRightRow.holds Try.pinned (OpenSpec.ofChange sumRightWrong)

/-- 'hearthlaw02.SumUpdates': WHATEVER THE INPUT: true; the input reads as it did. -/
def sumUpdatesSpec : ChangeSpec := { name := "sumUpdates", fn := fun _ => fun
  | [d1, d2] => { results := [.lit (.bool true)], args := [d1, d2] }
  | _ => none }
def sumUpdatesRow : OpenClaim := { program := "ytegeijaicjackaa", sum := "dabbbd9a03d65bc404c7827b8084265460d34787014e07b9f0bd8fff054c7e24", func := "hearth/hearthlaw02.SumUpdates", spec := "sumUpdates", inPlace := ["internal/bytealg.MakeNoZero"], unfollowed := true, recurses := true, apart := false }
def SumUpdatesSaid : Prop := sumUpdatesRow.holds Try.pinned (OpenSpec.ofChange sumUpdatesSpec)

/-- ITS FALSE NEIGHBOUR: 'it returns false'. Refute it at one input. -/
def sumUpdatesWrong : ChangeSpec := { name := "sumUpdates", fn := fun _ => fun
  | [d1, d2] => { results := [.lit (.bool false)], args := [d1, d2] }
  | _ => none }
def SumUpdatesWrongFalsely : Prop := sumUpdatesRow.holds Try.pinned (OpenSpec.ofChange sumUpdatesWrong)

/-- 'hearthlaw02.SumSame': WHATEVER THE INPUT: true; the input reads as it did. -/
def sumSameSpec : ChangeSpec := { name := "sumSame", fn := fun _ => fun
  | [d1, d2, d3] => { results := [.lit (.bool true)], args := [d1, d2, d3] }
  | _ => none }
def sumSameRow : OpenClaim := { program := "ytegeijaicjackaa", sum := "dabbbd9a03d65bc404c7827b8084265460d34787014e07b9f0bd8fff054c7e24", func := "hearth/hearthlaw02.SumSame", spec := "sumSame", inPlace := ["internal/bytealg.MakeNoZero"], unfollowed := true, recurses := true, apart := false }
def SumSameSaid : Prop := sumSameRow.holds Try.pinned (OpenSpec.ofChange sumSameSpec)

/-- ITS FALSE NEIGHBOUR: 'it returns false'. Refute it at one input. -/
def sumSameWrong : ChangeSpec := { name := "sumSame", fn := fun _ => fun
  | [d1, d2, d3] => { results := [.lit (.bool false)], args := [d1, d2, d3] }
  | _ => none }
def SumSameWrongFalsely : Prop := sumSameRow.holds Try.pinned (OpenSpec.ofChange sumSameWrong)

/-- 'hearthlaw01.OctetNums': WHATEVER THE INPUT: true; the input reads as it did. -/
def octetNumsSpec : ChangeSpec := { name := "octetNums", fn := fun _ => fun
  | [d1, d2] => { results := [.lit (.bool true)], args := [d1, d2] }
  | _ => none }
def octetNumsRow : OpenClaim := { program := "ytegeijaicjackaa", sum := "dabbbd9a03d65bc404c7827b8084265460d34787014e07b9f0bd8fff054c7e24", func := "hearth/hearthlaw01.OctetNums", spec := "octetNums", inPlace := ["internal/bytealg.MakeNoZero"], unfollowed := true, recurses := true, apart := false }
def OctetNumsSaid : Prop := octetNumsRow.holds Try.pinned (OpenSpec.ofChange octetNumsSpec)

/-- ITS FALSE NEIGHBOUR: 'it returns false'. Refute it at one input. -/
def octetNumsWrong : ChangeSpec := { name := "octetNums", fn := fun _ => fun
  | [d1, d2] => { results := [.lit (.bool false)], args := [d1, d2] }
  | _ => none }
def OctetNumsWrongFalsely : Prop := octetNumsRow.holds Try.pinned (OpenSpec.ofChange octetNumsWrong)

/- THE SECOND FORM. 'bulk': how many values and letters a reading holds, each counted each time it is reached (what is shared counts as often as it is met; a slice's spare places count too). A statement '..UptoSaid' is the law's where the arguments, and the package variables that the reading takes, are together of bulk at most 1048576: NARROWER than '..Said'. Prove '..Said' where nothing that the law and all that it calls make is longer than what came in: it says more and counts as full. Else prove '..UptoSaid'. A law counts once. -/
mutual
def uptoBulk {H : Type} : DataW H → Nat
  | .lit (.string bytes) => bytes.length + 1
  | .lit _ => 1
  | .nil => 1
  | .ptr d => uptoBulk d + 1
  | .slice elems spare => uptoBulkAll elems + uptoBulkAll spare + 1
  | .agg parts => uptoBulkAll parts + 1
  | .iface _ d => uptoBulk d + 1
  | .map entries => uptoBulkEntries entries + 1
  | .held _ => 1
def uptoBulkAll {H : Type} : List (DataW H) → Nat
  | [] => 0
  | d :: r => uptoBulk d + uptoBulkAll r
def uptoBulkEntries {H : Type} : List (Lit × DataW H) → Nat
  | [] => 0
  | x :: r => uptoBulkEntry x + uptoBulkEntries r
def uptoBulkEntry {H : Type} : Lit × DataW H → Nat
  | (.string bytes, d) => bytes.length + uptoBulk d + 1
  | (_, d) => uptoBulk d + 1
 end
def uptoSmall : (H : Type) → List (DataW H) → Bool := fun _ ds => decide (uptoBulkAll ds ≤ 1048576)
def OpenSpec.upto (s : _root_.Go.ChangeSpec) : _root_.Go.OpenSpec := { _root_.Go.OpenSpec.ofChange s with cond := some uptoSmall }

/-- 'hearthlaw01.OctetPairs', WHERE WHAT IT READS IS OF BULK AT MOST 1048576: true; the input reads as it did. -/
def octetPairsUptoRow : OpenClaim := { program := "ytegeijaicjackaa", sum := "dabbbd9a03d65bc404c7827b8084265460d34787014e07b9f0bd8fff054c7e24", func := "hearth/hearthlaw01.OctetPairs", spec := "octetPairs", unfollowed := true, recurses := true, apart := false, narrowed := true }
def OctetPairsUptoSaid : Prop := octetPairsUptoRow.holds Try.pinned (OpenSpec.upto octetPairsSpec)

/-- 'hearthlaw01.OctetReads', WHERE WHAT IT READS IS OF BULK AT MOST 1048576: true; the input reads as it did. -/
def octetReadsUptoRow : OpenClaim := { program := "ytegeijaicjackaa", sum := "dabbbd9a03d65bc404c7827b8084265460d34787014e07b9f0bd8fff054c7e24", func := "hearth/hearthlaw01.OctetReads", spec := "octetReads", unfollowed := true, recurses := true, apart := false, narrowed := true }
def OctetReadsUptoSaid : Prop := octetReadsUptoRow.holds Try.pinned (OpenSpec.upto octetReadsSpec)

/-- 'hearthlaw01.OctetJoins', WHERE WHAT IT READS IS OF BULK AT MOST 1048576: true; the input reads as it did. -/
def octetJoinsUptoRow : OpenClaim := { program := "ytegeijaicjackaa", sum := "dabbbd9a03d65bc404c7827b8084265460d34787014e07b9f0bd8fff054c7e24", func := "hearth/hearthlaw01.OctetJoins", spec := "octetJoins", inPlace := ["internal/bytealg.MakeNoZero"], unfollowed := true, recurses := true, apart := false, narrowed := true }
def OctetJoinsUptoSaid : Prop := octetJoinsUptoRow.holds Try.pinned (OpenSpec.upto octetJoinsSpec)

/-- 'hearthlaw01.OctetBack', WHERE WHAT IT READS IS OF BULK AT MOST 1048576: true; the input reads as it did. -/
def octetBackUptoRow : OpenClaim := { program := "ytegeijaicjackaa", sum := "dabbbd9a03d65bc404c7827b8084265460d34787014e07b9f0bd8fff054c7e24", func := "hearth/hearthlaw01.OctetBack", spec := "octetBack", inPlace := ["internal/bytealg.MakeNoZero"], unfollowed := true, recurses := true, apart := false, narrowed := true }
def OctetBackUptoSaid : Prop := octetBackUptoRow.holds Try.pinned (OpenSpec.upto octetBackSpec)

/-- 'hearthlaw02.SumOrder', WHERE WHAT IT READS IS OF BULK AT MOST 1048576: true; the input reads as it did. -/
def sumOrderUptoRow : OpenClaim := { program := "ytegeijaicjackaa", sum := "dabbbd9a03d65bc404c7827b8084265460d34787014e07b9f0bd8fff054c7e24", func := "hearth/hearthlaw02.SumOrder", spec := "sumOrder", inPlace := ["internal/bytealg.MakeNoZero"], unfollowed := true, recurses := true, apart := false, narrowed := true }
def SumOrderUptoSaid : Prop := sumOrderUptoRow.holds Try.pinned (OpenSpec.upto sumOrderSpec)

/-- 'hearthlaw02.SumSums', WHERE WHAT IT READS IS OF BULK AT MOST 1048576: true; the input reads as it did. -/
def sumSumsUptoRow : OpenClaim := { program := "ytegeijaicjackaa", sum := "dabbbd9a03d65bc404c7827b8084265460d34787014e07b9f0bd8fff054c7e24", func := "hearth/hearthlaw02.SumSums", spec := "sumSums", inPlace := ["internal/bytealg.MakeNoZero"], unfollowed := true, recurses := true, apart := false, narrowed := true }
def SumSumsUptoSaid : Prop := sumSumsUptoRow.holds Try.pinned (OpenSpec.upto sumSumsSpec)

/-- 'hearthlaw02.SumRight', WHERE WHAT IT READS IS OF BULK AT MOST 1048576: true; the input reads as it did. -/
def sumRightUptoRow : OpenClaim := { program := "ytegeijaicjackaa", sum := "dabbbd9a03d65bc404c7827b8084265460d34787014e07b9f0bd8fff054c7e24", func := "hearth/hearthlaw02.SumRight", spec := "sumRight", inPlace := ["internal/bytealg.MakeNoZero"], unfollowed := true, recurses := true, apart := false, narrowed := true }
def SumRightUptoSaid : Prop := sumRightUptoRow.holds Try.pinned (OpenSpec.upto sumRightSpec)

/-- 'hearthlaw02.SumUpdates', WHERE WHAT IT READS IS OF BULK AT MOST 1048576: true; the input reads as it did. -/
def sumUpdatesUptoRow : OpenClaim := { program := "ytegeijaicjackaa", sum := "dabbbd9a03d65bc404c7827b8084265460d34787014e07b9f0bd8fff054c7e24", func := "hearth/hearthlaw02.SumUpdates", spec := "sumUpdates", inPlace := ["internal/bytealg.MakeNoZero"], unfollowed := true, recurses := true, apart := false, narrowed := true }
def SumUpdatesUptoSaid : Prop := sumUpdatesUptoRow.holds Try.pinned (OpenSpec.upto sumUpdatesSpec)

/-- 'hearthlaw02.SumSame', WHERE WHAT IT READS IS OF BULK AT MOST 1048576: true; the input reads as it did. -/
def sumSameUptoRow : OpenClaim := { program := "ytegeijaicjackaa", sum := "dabbbd9a03d65bc404c7827b8084265460d34787014e07b9f0bd8fff054c7e24", func := "hearth/hearthlaw02.SumSame", spec := "sumSame", inPlace := ["internal/bytealg.MakeNoZero"], unfollowed := true, recurses := true, apart := false, narrowed := true }
def SumSameUptoSaid : Prop := sumSameUptoRow.holds Try.pinned (OpenSpec.upto sumSameSpec)

/-- 'hearthlaw01.OctetNums', WHERE WHAT IT READS IS OF BULK AT MOST 1048576: true; the input reads as it did. -/
def octetNumsUptoRow : OpenClaim := { program := "ytegeijaicjackaa", sum := "dabbbd9a03d65bc404c7827b8084265460d34787014e07b9f0bd8fff054c7e24", func := "hearth/hearthlaw01.OctetNums", spec := "octetNums", inPlace := ["internal/bytealg.MakeNoZero"], unfollowed := true, recurses := true, apart := false, narrowed := true }
def OctetNumsUptoSaid : Prop := octetNumsUptoRow.holds Try.pinned (OpenSpec.upto octetNumsSpec)

end Rows
end Go.Proofs.Ytegeijaicjackaa
