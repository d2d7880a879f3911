/-
  DERIVED. GIVEN WITH THE SEED: THE CARDS: each row of YtmonlaoaengfdaaGreatDoorRows.lean that lists a variable, with what it lists TIED to the program's text (the seventh form; the later family's looks); each row that meets fmt, with fmt's text TOLD by the authors' own Lean function (tested against real Go, not proved from fmt's source: count such statements apart). THE CARD IS WHAT COUNTS. Prove the row's statement (the work); the ties are given (YtmonlaoaengfdaaGreatDoorTie.lean); close each card by the builder's one call (the guide's Derived/Test/ToyasCard.lean, 'card_holds'). Laid BY PROGRAM, IN A SANDBOX (cutbox-door.mjs). By AI agents, Wed Nov 11 2026. No macro, syntax, notation, axiom, sorry.
-/
import Derived.Test.YtmonlaoaengfdaaGreatDoorRows
import GoSem.ClaimSeven
namespace Go.Proofs.YtmonlaoaengfdaaGreatDoor
namespace Rows

/-- THE TIED CARD OF 'hearthlaw12.NaptMapped'. -/
def naptMappedCard : Claim7 := { stood := { row := naptMappedRow, standIns := [], harness := (true, "5251a7cd702886f0e2cab37041370db5d56ad167fc319ea07e84a73303cf3d12"), looks := false }, kinds := [], alts := [], laidByText := true, laidKinds := [.data], laidTests := true, laidLooks := .later }
def NaptMappedCardSaid : Prop := Claim7.holds Tryz.pinned (.plain (OpenSpec.ofChange naptMappedSpec)) naptMappedCard

/-- THE TIED CARD OF 'hearthlaw12.NaptBack'. -/
def naptBackCard : Claim7 := { stood := { row := naptBackRow, standIns := [], harness := (true, "5251a7cd702886f0e2cab37041370db5d56ad167fc319ea07e84a73303cf3d12"), looks := false }, kinds := [], alts := [], laidByText := true, laidKinds := [.data], laidTests := true, laidLooks := .later }
def NaptBackCardSaid : Prop := Claim7.holds Tryz.pinned (.plain (OpenSpec.ofChange naptBackSpec)) naptBackCard

/-- THE TIED CARD OF 'hearthlaw12.NaptApart'. -/
def naptApartCard : Claim7 := { stood := { row := naptApartRow, standIns := [], harness := (true, "5251a7cd702886f0e2cab37041370db5d56ad167fc319ea07e84a73303cf3d12"), looks := false }, kinds := [], alts := [], laidByText := true, laidKinds := [.data], laidTests := true, laidLooks := .later }
def NaptApartCardSaid : Prop := Claim7.holds Tryz.pinned (.plain (OpenSpec.ofChange naptApartSpec)) naptApartCard

/-- THE TIED CARD OF 'hearthlaw12.NaptQuiet'. -/
def naptQuietCard : Claim7 := { stood := { row := naptQuietRow, standIns := [], harness := (true, "5251a7cd702886f0e2cab37041370db5d56ad167fc319ea07e84a73303cf3d12"), looks := false }, kinds := [], alts := [], laidByText := true, laidKinds := [.data], laidTests := true, laidLooks := .later }
def NaptQuietCardSaid : Prop := Claim7.holds Tryz.pinned (.plain (OpenSpec.ofChange naptQuietSpec)) naptQuietCard

/-- THE SECOND FORM's CARD OF 'hearthlaw12.NaptMapped'. -/
def naptMappedUptoCard : Claim7 := { stood := { row := naptMappedUptoRow, standIns := [], harness := (true, "5251a7cd702886f0e2cab37041370db5d56ad167fc319ea07e84a73303cf3d12"), looks := false }, kinds := [], alts := [], laidByText := true, laidKinds := [.data], laidTests := true, laidLooks := .later }
def NaptMappedUptoCardSaid : Prop := Claim7.holds Tryz.pinned (.plain (OpenSpec.upto naptMappedSpec)) naptMappedUptoCard

/-- THE SECOND FORM's CARD OF 'hearthlaw12.NaptBack'. -/
def naptBackUptoCard : Claim7 := { stood := { row := naptBackUptoRow, standIns := [], harness := (true, "5251a7cd702886f0e2cab37041370db5d56ad167fc319ea07e84a73303cf3d12"), looks := false }, kinds := [], alts := [], laidByText := true, laidKinds := [.data], laidTests := true, laidLooks := .later }
def NaptBackUptoCardSaid : Prop := Claim7.holds Tryz.pinned (.plain (OpenSpec.upto naptBackSpec)) naptBackUptoCard

/-- THE SECOND FORM's CARD OF 'hearthlaw12.NaptApart'. -/
def naptApartUptoCard : Claim7 := { stood := { row := naptApartUptoRow, standIns := [], harness := (true, "5251a7cd702886f0e2cab37041370db5d56ad167fc319ea07e84a73303cf3d12"), looks := false }, kinds := [], alts := [], laidByText := true, laidKinds := [.data], laidTests := true, laidLooks := .later }
def NaptApartUptoCardSaid : Prop := Claim7.holds Tryz.pinned (.plain (OpenSpec.upto naptApartSpec)) naptApartUptoCard

/-- THE SECOND FORM's CARD OF 'hearthlaw12.NaptQuiet'. -/
def naptQuietUptoCard : Claim7 := { stood := { row := naptQuietUptoRow, standIns := [], harness := (true, "5251a7cd702886f0e2cab37041370db5d56ad167fc319ea07e84a73303cf3d12"), looks := false }, kinds := [], alts := [], laidByText := true, laidKinds := [.data], laidTests := true, laidLooks := .later }
def NaptQuietUptoCardSaid : Prop := Claim7.holds Tryz.pinned (.plain (OpenSpec.upto naptQuietSpec)) naptQuietUptoCard
end Rows
end Go.Proofs.YtmonlaoaengfdaaGreatDoor
