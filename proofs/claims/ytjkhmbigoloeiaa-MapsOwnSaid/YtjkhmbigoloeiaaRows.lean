/-
  No cell of these rows narrows 'for every input' (looked for: loops, veiled, ifaces, maps, wideKeys, modest, calm, conditions, laid).
  DERIVED. THE GIVEN ROWS OF THIS SEAT. 6 by the template 'for every input the law returns true; each argument reads behind the call as it read before'; 0 by the template 'total and deterministic' (their statements: YtjkhmbigoloeiaaTotals.lean).
  GIVEN WITH THE SEED: the statements are not yours to turn. If you find one false, say at which input.
  Laid BY PROGRAM, IN A SANDBOX (cutbox-rows.mjs): the forced cells as the released guide's own fill.sh prints them over the translation 6a460f03a5c30b9e… (all of the seat's roots in one cut). By AI agents, Wed Nov 11 2026. No macro, syntax, notation, axiom, sorry.
-/
import Derived.Test.YtjkhmbigoloeiaaChecked
import GoSem.Claim
import GoSem.ClaimJoined
import GoSem.ClaimMapViews
import Derived.JoinedTies
import Derived.KernelRfl
namespace Go.Proofs.Ytjkhmbigoloeiaa
/- THE CELL 'sum', in the pinned program and in every row, IS THE sha256 OF THE DUMP (.gsa) THAT YtjkhmbigoloeiaaProg.lean LOADS. Nothing in Lean hashes anything: it is a label: what it is worth is what the hold of that sum in a sandbox is worth. -/
noncomputable def Try.pinned : Pinned := { name := "ytjkhmbigoloeiaa", sum := "6a460f03a5c30b9e6dc752e99aed7ec791894de3ba2a662a2a26d9161cbaa08d", checked := Try.checked }
namespace Rows
def none {H : Type} : Left H := { results := [], args := [] }

/-- 'hearthlaw24.NeighAnswers': WHATEVER THE INPUT: true; the input reads as it did. -/
def neighAnswersSpec : ChangeSpec := { name := "neighAnswers", fn := fun _ => fun
  | [d1, d2] => { results := [.lit (.bool true)], args := [d1, d2] }
  | _ => none }
def neighAnswersRow : OpenClaim := { program := "ytjkhmbigoloeiaa", sum := "6a460f03a5c30b9e6dc752e99aed7ec791894de3ba2a662a2a26d9161cbaa08d", func := "hearth/hearthlaw24.NeighAnswers", spec := "neighAnswers", inPlace := ["slices.overlaps[hearth/keyed.pair[hearth/api.Addr, hearth/neigh.host]]"], unfollowed := true, recurses := true, apart := false }
def NeighAnswersSaid : Prop := neighAnswersRow.holds Try.pinned (OpenSpec.ofChange neighAnswersSpec)

/-- ITS FALSE NEIGHBOUR: 'it returns false'. Refute it at one input. -/
def neighAnswersWrong : ChangeSpec := { name := "neighAnswers", fn := fun _ => fun
  | [d1, d2] => { results := [.lit (.bool false)], args := [d1, d2] }
  | _ => none }
def NeighAnswersWrongFalsely : Prop := neighAnswersRow.holds Try.pinned (OpenSpec.ofChange neighAnswersWrong)

/-- 'hearthlaw24.NeighMany': WHATEVER THE INPUT: true; the input reads as it did. -/
def neighManySpec : ChangeSpec := { name := "neighMany", fn := fun _ => fun
  | [d1, d2, d3] => { results := [.lit (.bool true)], args := [d1, d2, d3] }
  | _ => none }
def neighManyRow : OpenClaim := { program := "ytjkhmbigoloeiaa", sum := "6a460f03a5c30b9e6dc752e99aed7ec791894de3ba2a662a2a26d9161cbaa08d", func := "hearth/hearthlaw24.NeighMany", spec := "neighMany", inPlace := ["slices.overlaps[hearth/keyed.pair[hearth/api.Addr, hearth/neigh.host]]"], unfollowed := true, recurses := true, apart := false }
def NeighManySaid : Prop := neighManyRow.holds Try.pinned (OpenSpec.ofChange neighManySpec)

/-- ITS FALSE NEIGHBOUR: 'it returns false'. Refute it at one input. -/
def neighManyWrong : ChangeSpec := { name := "neighMany", fn := fun _ => fun
  | [d1, d2, d3] => { results := [.lit (.bool false)], args := [d1, d2, d3] }
  | _ => none }
def NeighManyWrongFalsely : Prop := neighManyRow.holds Try.pinned (OpenSpec.ofChange neighManyWrong)

/-- 'hearthlaw20.MapsFull': WHATEVER THE INPUT: true; the input reads as it did. -/
def mapsFullSpec : ChangeSpec := { name := "mapsFull", fn := fun _ => fun
  | [d1, d2] => { results := [.lit (.bool true)], args := [d1, d2] }
  | _ => none }
def mapsFullRow : OpenClaim := { program := "ytjkhmbigoloeiaa", sum := "6a460f03a5c30b9e6dc752e99aed7ec791894de3ba2a662a2a26d9161cbaa08d", func := "hearth/hearthlaw20.MapsFull", spec := "mapsFull", inPlace := ["slices.overlaps[hearth/keyed.pair[hearth/maps.key, hearth/api.Entry]]"], unfollowed := true, recurses := true, apart := false }
def MapsFullSaid : Prop := mapsFullRow.holds Try.pinned (OpenSpec.ofChange mapsFullSpec)

/-- ITS FALSE NEIGHBOUR: 'it returns false'. Refute it at one input. -/
def mapsFullWrong : ChangeSpec := { name := "mapsFull", fn := fun _ => fun
  | [d1, d2] => { results := [.lit (.bool false)], args := [d1, d2] }
  | _ => none }
def MapsFullWrongFalsely : Prop := mapsFullRow.holds Try.pinned (OpenSpec.ofChange mapsFullWrong)

/-- 'hearthlaw20.MapsLasts': WHATEVER THE INPUT: true; the input reads as it did. -/
def mapsLastsSpec : ChangeSpec := { name := "mapsLasts", fn := fun _ => fun
  | [d1, d2] => { results := [.lit (.bool true)], args := [d1, d2] }
  | _ => none }
def mapsLastsRow : OpenClaim := { program := "ytjkhmbigoloeiaa", sum := "6a460f03a5c30b9e6dc752e99aed7ec791894de3ba2a662a2a26d9161cbaa08d", func := "hearth/hearthlaw20.MapsLasts", spec := "mapsLasts", inPlace := ["slices.overlaps[hearth/keyed.pair[hearth/maps.key, hearth/api.Entry]]"], unfollowed := true, recurses := true, apart := false }
def MapsLastsSaid : Prop := mapsLastsRow.holds Try.pinned (OpenSpec.ofChange mapsLastsSpec)

/-- ITS FALSE NEIGHBOUR: 'it returns false'. Refute it at one input. -/
def mapsLastsWrong : ChangeSpec := { name := "mapsLasts", fn := fun _ => fun
  | [d1, d2] => { results := [.lit (.bool false)], args := [d1, d2] }
  | _ => none }
def MapsLastsWrongFalsely : Prop := mapsLastsRow.holds Try.pinned (OpenSpec.ofChange mapsLastsWrong)

/-- 'hearthlaw20.MapsApart': WHATEVER THE INPUT: true; the input reads as it did. -/
def mapsApartSpec : ChangeSpec := { name := "mapsApart", fn := fun _ => fun
  | [d1, d2] => { results := [.lit (.bool true)], args := [d1, d2] }
  | _ => none }
def mapsApartRow : OpenClaim := { program := "ytjkhmbigoloeiaa", sum := "6a460f03a5c30b9e6dc752e99aed7ec791894de3ba2a662a2a26d9161cbaa08d", func := "hearth/hearthlaw20.MapsApart", spec := "mapsApart", inPlace := ["slices.overlaps[hearth/keyed.pair[hearth/maps.key, hearth/api.Entry]]"], unfollowed := true, recurses := true, apart := false }
def MapsApartSaid : Prop := mapsApartRow.holds Try.pinned (OpenSpec.ofChange mapsApartSpec)

/-- ITS FALSE NEIGHBOUR: 'it returns false'. Refute it at one input. -/
def mapsApartWrong : ChangeSpec := { name := "mapsApart", fn := fun _ => fun
  | [d1, d2] => { results := [.lit (.bool false)], args := [d1, d2] }
  | _ => none }
def MapsApartWrongFalsely : Prop := mapsApartRow.holds Try.pinned (OpenSpec.ofChange mapsApartWrong)

/-- 'hearthlaw20.MapsOwn': WHATEVER THE INPUT: true; the input reads as it did. -/
def mapsOwnSpec : ChangeSpec := { name := "mapsOwn", fn := fun _ => fun
  | [d1, d2] => { results := [.lit (.bool true)], args := [d1, d2] }
  | _ => none }
def mapsOwnRow : OpenClaim := { program := "ytjkhmbigoloeiaa", sum := "6a460f03a5c30b9e6dc752e99aed7ec791894de3ba2a662a2a26d9161cbaa08d", func := "hearth/hearthlaw20.MapsOwn", spec := "mapsOwn", inPlace := ["slices.overlaps[hearth/keyed.pair[hearth/maps.key, hearth/api.Entry]]"], unfollowed := true, recurses := true, apart := false }
def MapsOwnSaid : Prop := mapsOwnRow.holds Try.pinned (OpenSpec.ofChange mapsOwnSpec)

/-- ITS FALSE NEIGHBOUR: 'it returns false'. Refute it at one input. -/
def mapsOwnWrong : ChangeSpec := { name := "mapsOwn", fn := fun _ => fun
  | [d1, d2] => { results := [.lit (.bool false)], args := [d1, d2] }
  | _ => none }
def MapsOwnWrongFalsely : Prop := mapsOwnRow.holds Try.pinned (OpenSpec.ofChange mapsOwnWrong)

/- THE SECOND FORM. 'bulk': how many values and letters a reading holds, each counted each time it is reached (what is shared counts as often as it is met; a slice's spare places count too). A statement '..UptoSaid' is the law's where the arguments, and the package variables that the reading takes, are together of bulk at most 1048576: NARROWER than '..Said'. Prove '..Said' where nothing that the law and all that it calls make is longer than what came in: it says more and counts as full. Else prove '..UptoSaid'. A law counts once. -/
mutual
def uptoBulk {H : Type} : DataW H → Nat
  | .lit (.string bytes) => bytes.length + 1
  | .lit _ => 1
  | .nil => 1
  | .ptr d => uptoBulk d + 1
  | .slice elems spare => uptoBulkAll elems + uptoBulkAll spare + 1
  | .agg parts => uptoBulkAll parts + 1
  | .iface _ d => uptoBulk d + 1
  | .map entries => uptoBulkEntries entries + 1
  | .held _ => 1
def uptoBulkAll {H : Type} : List (DataW H) → Nat
  | [] => 0
  | d :: r => uptoBulk d + uptoBulkAll r
def uptoBulkEntries {H : Type} : List (Lit × DataW H) → Nat
  | [] => 0
  | x :: r => uptoBulkEntry x + uptoBulkEntries r
def uptoBulkEntry {H : Type} : Lit × DataW H → Nat
  | (.string bytes, d) => bytes.length + uptoBulk d + 1
  | (_, d) => uptoBulk d + 1
 end
def uptoSmall : (H : Type) → List (DataW H) → Bool := fun _ ds => decide (uptoBulkAll ds ≤ 1048576)
def OpenSpec.upto (s : _root_.Go.ChangeSpec) : _root_.Go.OpenSpec := { _root_.Go.OpenSpec.ofChange s with cond := some uptoSmall }

/-- 'hearthlaw24.NeighAnswers', WHERE WHAT IT READS IS OF BULK AT MOST 1048576: true; the input reads as it did. -/
def neighAnswersUptoRow : OpenClaim := { program := "ytjkhmbigoloeiaa", sum := "6a460f03a5c30b9e6dc752e99aed7ec791894de3ba2a662a2a26d9161cbaa08d", func := "hearth/hearthlaw24.NeighAnswers", spec := "neighAnswers", inPlace := ["slices.overlaps[hearth/keyed.pair[hearth/api.Addr, hearth/neigh.host]]"], unfollowed := true, recurses := true, apart := false, narrowed := true }
def NeighAnswersUptoSaid : Prop := neighAnswersUptoRow.holds Try.pinned (OpenSpec.upto neighAnswersSpec)

/-- 'hearthlaw24.NeighMany', WHERE WHAT IT READS IS OF BULK AT MOST 1048576: true; the input reads as it did. -/
def neighManyUptoRow : OpenClaim := { program := "ytjkhmbigoloeiaa", sum := "6a460f03a5c30b9e6dc752e99aed7ec791894de3ba2a662a2a26d9161cbaa08d", func := "hearth/hearthlaw24.NeighMany", spec := "neighMany", inPlace := ["slices.overlaps[hearth/keyed.pair[hearth/api.Addr, hearth/neigh.host]]"], unfollowed := true, recurses := true, apart := false, narrowed := true }
def NeighManyUptoSaid : Prop := neighManyUptoRow.holds Try.pinned (OpenSpec.upto neighManySpec)

/-- 'hearthlaw20.MapsFull', WHERE WHAT IT READS IS OF BULK AT MOST 1048576: true; the input reads as it did. -/
def mapsFullUptoRow : OpenClaim := { program := "ytjkhmbigoloeiaa", sum := "6a460f03a5c30b9e6dc752e99aed7ec791894de3ba2a662a2a26d9161cbaa08d", func := "hearth/hearthlaw20.MapsFull", spec := "mapsFull", inPlace := ["slices.overlaps[hearth/keyed.pair[hearth/maps.key, hearth/api.Entry]]"], unfollowed := true, recurses := true, apart := false, narrowed := true }
def MapsFullUptoSaid : Prop := mapsFullUptoRow.holds Try.pinned (OpenSpec.upto mapsFullSpec)

/-- 'hearthlaw20.MapsLasts', WHERE WHAT IT READS IS OF BULK AT MOST 1048576: true; the input reads as it did. -/
def mapsLastsUptoRow : OpenClaim := { program := "ytjkhmbigoloeiaa", sum := "6a460f03a5c30b9e6dc752e99aed7ec791894de3ba2a662a2a26d9161cbaa08d", func := "hearth/hearthlaw20.MapsLasts", spec := "mapsLasts", inPlace := ["slices.overlaps[hearth/keyed.pair[hearth/maps.key, hearth/api.Entry]]"], unfollowed := true, recurses := true, apart := false, narrowed := true }
def MapsLastsUptoSaid : Prop := mapsLastsUptoRow.holds Try.pinned (OpenSpec.upto mapsLastsSpec)

/-- 'hearthlaw20.MapsApart', WHERE WHAT IT READS IS OF BULK AT MOST 1048576: true; the input reads as it did. -/
def mapsApartUptoRow : OpenClaim := { program := "ytjkhmbigoloeiaa", sum := "6a460f03a5c30b9e6dc752e99aed7ec791894de3ba2a662a2a26d9161cbaa08d", func := "hearth/hearthlaw20.MapsApart", spec := "mapsApart", inPlace := ["slices.overlaps[hearth/keyed.pair[hearth/maps.key, hearth/api.Entry]]"], unfollowed := true, recurses := true, apart := false, narrowed := true }
def MapsApartUptoSaid : Prop := mapsApartUptoRow.holds Try.pinned (OpenSpec.upto mapsApartSpec)

/-- 'hearthlaw20.MapsOwn', WHERE WHAT IT READS IS OF BULK AT MOST 1048576: true; the input reads as it did. -/
def mapsOwnUptoRow : OpenClaim := { program := "ytjkhmbigoloeiaa", sum := "6a460f03a5c30b9e6dc752e99aed7ec791894de3ba2a662a2a26d9161cbaa08d", func := "hearth/hearthlaw20.MapsOwn", spec := "mapsOwn", inPlace := ["slices.overlaps[hearth/keyed.pair[hearth/maps.key, hearth/api.Entry]]"], unfollowed := true, recurses := true, apart := false, narrowed := true }
def MapsOwnUptoSaid : Prop := mapsOwnUptoRow.holds Try.pinned (OpenSpec.upto mapsOwnSpec)

end Rows
end Go.Proofs.Ytjkhmbigoloeiaa
