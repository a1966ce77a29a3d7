/-
  DERIVED. GIVEN WITH THE SEED: THE CARDS: each row of YtnineihfjbbmpaaGreatDoorRows.lean that lists a variable, with what it lists TIED to the program's text (the seventh form; the later family's looks); each row that meets fmt, with fmt's text TOLD by the authors' own Lean function (tested against real Go, not proved from fmt's source: count such statements apart). THE CARD IS WHAT COUNTS. Prove the row's statement (the work); the ties are given (YtnineihfjbbmpaaGreatDoorTie.lean); close each card by the builder's one call (the guide's Derived/Test/ToyasCard.lean, 'card_holds'). Laid BY PROGRAM, IN A SANDBOX (cutbox-door.mjs). By AI agents, Wed Nov 11 2026. No macro, syntax, notation, axiom, sorry.
-/
import Derived.Test.YtnineihfjbbmpaaGreatDoorRows
import GoSem.ClaimSeven
namespace Go.Proofs.YtnineihfjbbmpaaGreatDoor
namespace Rows

/-- THE TIED CARD OF 'lineagelaw59.ProtocolEncode'. -/
def protocolEncodeCard : Claim7 := { stood := { row := protocolEncodeRow, standIns := [], harness := (true, "8acd3d2f48ac2235fc1b6daa1fb67aefbbb5ff296bf8a7486f7a8e8be8a4e97e"), looks := false }, kinds := [], alts := [], laidByText := true, laidKinds := [.data, .data, .data, .data, .pinned], laidTests := true, laidLooks := .later }
def ProtocolEncodeCardSaid : Prop := Claim7.holds Tryz.pinned (.plain (OpenSpec.ofChange protocolEncodeSpec)) protocolEncodeCard

/-- THE TIED CARD OF 'lineagelaw59.ProtocolDecode'. -/
def protocolDecodeCard : Claim7 := { stood := { row := protocolDecodeRow, standIns := [], harness := (true, "8acd3d2f48ac2235fc1b6daa1fb67aefbbb5ff296bf8a7486f7a8e8be8a4e97e"), looks := false }, kinds := [], alts := [], laidByText := true, laidKinds := [.data, .data, .data, .data, .pinned], laidTests := true, laidLooks := .later }
def ProtocolDecodeCardSaid : Prop := Claim7.holds Tryz.pinned (.plain (OpenSpec.ofChange protocolDecodeSpec)) protocolDecodeCard

/-- THE TIED CARD OF 'lineagelaw59.ProtocolStream'. -/
def protocolStreamCard : Claim7 := { stood := { row := protocolStreamRow, standIns := [], harness := (true, "8acd3d2f48ac2235fc1b6daa1fb67aefbbb5ff296bf8a7486f7a8e8be8a4e97e"), looks := false }, kinds := [], alts := [], laidByText := true, laidKinds := [.data, .data, .data, .data, .pinned], laidTests := true, laidLooks := .later }
def ProtocolStreamCardSaid : Prop := Claim7.holds Tryz.pinned (.plain (OpenSpec.ofChange protocolStreamSpec)) protocolStreamCard

/-- THE SECOND FORM's CARD OF 'lineagelaw59.ProtocolEncode'. -/
def protocolEncodeUptoCard : Claim7 := { stood := { row := protocolEncodeUptoRow, standIns := [], harness := (true, "8acd3d2f48ac2235fc1b6daa1fb67aefbbb5ff296bf8a7486f7a8e8be8a4e97e"), looks := false }, kinds := [], alts := [], laidByText := true, laidKinds := [.data, .data, .data, .data, .pinned], laidTests := true, laidLooks := .later }
def ProtocolEncodeUptoCardSaid : Prop := Claim7.holds Tryz.pinned (.plain (OpenSpec.upto protocolEncodeSpec)) protocolEncodeUptoCard

/-- THE SECOND FORM's CARD OF 'lineagelaw59.ProtocolDecode'. -/
def protocolDecodeUptoCard : Claim7 := { stood := { row := protocolDecodeUptoRow, standIns := [], harness := (true, "8acd3d2f48ac2235fc1b6daa1fb67aefbbb5ff296bf8a7486f7a8e8be8a4e97e"), looks := false }, kinds := [], alts := [], laidByText := true, laidKinds := [.data, .data, .data, .data, .pinned], laidTests := true, laidLooks := .later }
def ProtocolDecodeUptoCardSaid : Prop := Claim7.holds Tryz.pinned (.plain (OpenSpec.upto protocolDecodeSpec)) protocolDecodeUptoCard

/-- THE SECOND FORM's CARD OF 'lineagelaw59.ProtocolStream'. -/
def protocolStreamUptoCard : Claim7 := { stood := { row := protocolStreamUptoRow, standIns := [], harness := (true, "8acd3d2f48ac2235fc1b6daa1fb67aefbbb5ff296bf8a7486f7a8e8be8a4e97e"), looks := false }, kinds := [], alts := [], laidByText := true, laidKinds := [.data, .data, .data, .data, .pinned], laidTests := true, laidLooks := .later }
def ProtocolStreamUptoCardSaid : Prop := Claim7.holds Tryz.pinned (.plain (OpenSpec.upto protocolStreamSpec)) protocolStreamUptoCard
end Rows
end Go.Proofs.YtnineihfjbbmpaaGreatDoor
