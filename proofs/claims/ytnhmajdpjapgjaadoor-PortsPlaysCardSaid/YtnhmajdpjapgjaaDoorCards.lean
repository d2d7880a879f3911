/-
  DERIVED. GIVEN WITH THE SEED: THE CARDS: each row of YtnhmajdpjapgjaaDoorRows.lean that lists a variable, with what it lists TIED to the program's text (the seventh form; the later family's looks); each row that meets fmt, with fmt's text TOLD by the authors' own Lean function (tested against real Go, not proved from fmt's source: count such statements apart). THE CARD IS WHAT COUNTS. Prove the row's statement (the work); the ties are given (YtnhmajdpjapgjaaDoorTie.lean); close each card by the builder's one call (the guide's Derived/Test/ToyasCard.lean, 'card_holds'). Laid BY PROGRAM, IN A SANDBOX (cutbox-door.mjs). By AI agents, Wed Nov 11 2026. No macro, syntax, notation, axiom, sorry.
-/
import Derived.Test.YtnhmajdpjapgjaaDoorRows
import GoSem.ClaimSeven
namespace Go.Proofs.YtnhmajdpjapgjaaDoor
namespace Rows

/-- THE TIED CARD OF 'hearthlaw07.PortsAll'. -/
def portsAllCard : Claim7 := { stood := { row := portsAllRow, standIns := [], harness := (true, "f879604ec6ad26d7bb44c5d40e26c8e43bbda50914c7fb8fa61c5453093931d1"), looks := false }, kinds := [], alts := [], laidByText := true, laidKinds := [.data], laidTests := true, laidLooks := .later }
def PortsAllCardSaid : Prop := Claim7.holds Tryd.pinned (.plain (OpenSpec.ofChange portsAllSpec)) portsAllCard

/-- THE TIED CARD OF 'hearthlaw07.PortsLow'. -/
def portsLowCard : Claim7 := { stood := { row := portsLowRow, standIns := [], harness := (true, "f879604ec6ad26d7bb44c5d40e26c8e43bbda50914c7fb8fa61c5453093931d1"), looks := false }, kinds := [], alts := [], laidByText := true, laidKinds := [.data], laidTests := true, laidLooks := .later }
def PortsLowCardSaid : Prop := Claim7.holds Tryd.pinned (.plain (OpenSpec.ofChange portsLowSpec)) portsLowCard

/-- THE TIED CARD OF 'hearthlaw03.EtherApart'. -/
def etherApartCard : Claim7 := { stood := { row := etherApartRow, standIns := [], harness := (true, "f879604ec6ad26d7bb44c5d40e26c8e43bbda50914c7fb8fa61c5453093931d1"), looks := false }, kinds := [], alts := [], laidByText := true, laidKinds := [.widerDeep], laidTests := true, laidLooks := .later }
def EtherApartCardSaid : Prop := Claim7.holds Tryd.pinned (.plain (OpenSpec.ofChange etherApartSpec)) etherApartCard

/-- THE TIED CARD OF 'hearthlaw07.PortsStops'. -/
def portsStopsCard : Claim7 := { stood := { row := portsStopsRow, standIns := [], harness := (true, "f879604ec6ad26d7bb44c5d40e26c8e43bbda50914c7fb8fa61c5453093931d1"), looks := false }, kinds := [], alts := [], laidByText := true, laidKinds := [.data], laidTests := true, laidLooks := .later }
def PortsStopsCardSaid : Prop := Claim7.holds Tryd.pinned (.plain (OpenSpec.ofChange portsStopsSpec)) portsStopsCard

/-- THE TIED CARD OF 'hearthlaw07.PortsBack'. -/
def portsBackCard : Claim7 := { stood := { row := portsBackRow, standIns := [], harness := (true, "f879604ec6ad26d7bb44c5d40e26c8e43bbda50914c7fb8fa61c5453093931d1"), looks := false }, kinds := [], alts := [], laidByText := true, laidKinds := [.data], laidTests := true, laidLooks := .later }
def PortsBackCardSaid : Prop := Claim7.holds Tryd.pinned (.plain (OpenSpec.ofChange portsBackSpec)) portsBackCard

/-- THE TIED CARD OF 'hearthlaw07.PortsPlays'. -/
def portsPlaysCard : Claim7 := { stood := { row := portsPlaysRow, standIns := [], harness := (true, "f879604ec6ad26d7bb44c5d40e26c8e43bbda50914c7fb8fa61c5453093931d1"), looks := false }, kinds := [], alts := [], laidByText := true, laidKinds := [.data], laidTests := true, laidLooks := .later }
def PortsPlaysCardSaid : Prop := Claim7.holds Tryd.pinned (.plain (OpenSpec.ofChange portsPlaysSpec)) portsPlaysCard

/-- THE TIED CARD OF 'hearthlaw03.EtherARP'. -/
def etherARPCard : Claim7 := { stood := { row := etherARPRow, standIns := [], harness := (true, "f879604ec6ad26d7bb44c5d40e26c8e43bbda50914c7fb8fa61c5453093931d1"), looks := false }, kinds := [], alts := [], laidByText := true, laidKinds := [.widerDeep], laidTests := true, laidLooks := .later }
def EtherARPCardSaid : Prop := Claim7.holds Tryd.pinned (.plain (OpenSpec.ofChange etherARPSpec)) etherARPCard

/-- THE SECOND FORM's CARD OF 'hearthlaw07.PortsAll'. -/
def portsAllUptoCard : Claim7 := { stood := { row := portsAllUptoRow, standIns := [], harness := (true, "f879604ec6ad26d7bb44c5d40e26c8e43bbda50914c7fb8fa61c5453093931d1"), looks := false }, kinds := [], alts := [], laidByText := true, laidKinds := [.data], laidTests := true, laidLooks := .later }
def PortsAllUptoCardSaid : Prop := Claim7.holds Tryd.pinned (.plain (OpenSpec.upto portsAllSpec)) portsAllUptoCard

/-- THE SECOND FORM's CARD OF 'hearthlaw07.PortsLow'. -/
def portsLowUptoCard : Claim7 := { stood := { row := portsLowUptoRow, standIns := [], harness := (true, "f879604ec6ad26d7bb44c5d40e26c8e43bbda50914c7fb8fa61c5453093931d1"), looks := false }, kinds := [], alts := [], laidByText := true, laidKinds := [.data], laidTests := true, laidLooks := .later }
def PortsLowUptoCardSaid : Prop := Claim7.holds Tryd.pinned (.plain (OpenSpec.upto portsLowSpec)) portsLowUptoCard

/-- THE SECOND FORM's CARD OF 'hearthlaw03.EtherApart'. -/
def etherApartUptoCard : Claim7 := { stood := { row := etherApartUptoRow, standIns := [], harness := (true, "f879604ec6ad26d7bb44c5d40e26c8e43bbda50914c7fb8fa61c5453093931d1"), looks := false }, kinds := [], alts := [], laidByText := true, laidKinds := [.widerDeep], laidTests := true, laidLooks := .later }
def EtherApartUptoCardSaid : Prop := Claim7.holds Tryd.pinned (.plain (OpenSpec.upto etherApartSpec)) etherApartUptoCard

/-- THE SECOND FORM's CARD OF 'hearthlaw07.PortsStops'. -/
def portsStopsUptoCard : Claim7 := { stood := { row := portsStopsUptoRow, standIns := [], harness := (true, "f879604ec6ad26d7bb44c5d40e26c8e43bbda50914c7fb8fa61c5453093931d1"), looks := false }, kinds := [], alts := [], laidByText := true, laidKinds := [.data], laidTests := true, laidLooks := .later }
def PortsStopsUptoCardSaid : Prop := Claim7.holds Tryd.pinned (.plain (OpenSpec.upto portsStopsSpec)) portsStopsUptoCard

/-- THE SECOND FORM's CARD OF 'hearthlaw07.PortsBack'. -/
def portsBackUptoCard : Claim7 := { stood := { row := portsBackUptoRow, standIns := [], harness := (true, "f879604ec6ad26d7bb44c5d40e26c8e43bbda50914c7fb8fa61c5453093931d1"), looks := false }, kinds := [], alts := [], laidByText := true, laidKinds := [.data], laidTests := true, laidLooks := .later }
def PortsBackUptoCardSaid : Prop := Claim7.holds Tryd.pinned (.plain (OpenSpec.upto portsBackSpec)) portsBackUptoCard

/-- THE SECOND FORM's CARD OF 'hearthlaw07.PortsPlays'. -/
def portsPlaysUptoCard : Claim7 := { stood := { row := portsPlaysUptoRow, standIns := [], harness := (true, "f879604ec6ad26d7bb44c5d40e26c8e43bbda50914c7fb8fa61c5453093931d1"), looks := false }, kinds := [], alts := [], laidByText := true, laidKinds := [.data], laidTests := true, laidLooks := .later }
def PortsPlaysUptoCardSaid : Prop := Claim7.holds Tryd.pinned (.plain (OpenSpec.upto portsPlaysSpec)) portsPlaysUptoCard

/-- THE SECOND FORM's CARD OF 'hearthlaw03.EtherARP'. -/
def etherARPUptoCard : Claim7 := { stood := { row := etherARPUptoRow, standIns := [], harness := (true, "f879604ec6ad26d7bb44c5d40e26c8e43bbda50914c7fb8fa61c5453093931d1"), looks := false }, kinds := [], alts := [], laidByText := true, laidKinds := [.widerDeep], laidTests := true, laidLooks := .later }
def EtherARPUptoCardSaid : Prop := Claim7.holds Tryd.pinned (.plain (OpenSpec.upto etherARPSpec)) etherARPUptoCard
end Rows
end Go.Proofs.YtnhmajdpjapgjaaDoor
