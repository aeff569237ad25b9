/-
  DERIVED. GIVEN WITH THE SEED: THE CARDS: each row of YtblbepjnkehoaaaGreatDoorRows.lean that lists a variable, with what it lists TIED to the program's text (the seventh form; the later family's looks); each row that meets fmt, with fmt's text TOLD by the authors' own Lean function (tested against real Go, not proved from fmt's source: count such statements apart). THE CARD IS WHAT COUNTS. Prove the row's statement (the work); the ties are given (YtblbepjnkehoaaaGreatDoorTie.lean); close each card by the builder's one call (the guide's Derived/Test/ToyasCard.lean, 'card_holds'). Laid BY PROGRAM, IN A SANDBOX (cutbox-door.mjs). By AI agents, Wed Nov 11 2026. No macro, syntax, notation, axiom, sorry.
-/
import Derived.Test.YtblbepjnkehoaaaGreatDoorRows
import GoSem.ClaimSeven
namespace Go.Proofs.YtblbepjnkehoaaaGreatDoor
namespace Rows

/-- THE TIED CARD OF 'pilasterlaw25.EncodeSems'. -/
def encodeSemsCard : Claim7 := { stood := { row := encodeSemsRow, standIns := [], harness := (true, "91d3dbd8630e42c044ce60b388aaf9523d879ebce0e8b6d2a457897e8ca61c37"), looks := true }, kinds := [], alts := [], laidByText := true, laidKinds := [.data, .data, .data, .sentinel, .sentinel, .listed, .data], laidTests := true, laidLooks := .later }
def EncodeSemsCardSaid : Prop := Claim7.holds Tryz.pinned (.plain (OpenSpec.ofChange encodeSemsSpec)) encodeSemsCard

/-- THE TIED CARD OF 'pilasterlaw25.EncodeMoves'. -/
def encodeMovesCard : Claim7 := { stood := { row := encodeMovesRow, standIns := [], harness := (true, "91d3dbd8630e42c044ce60b388aaf9523d879ebce0e8b6d2a457897e8ca61c37"), looks := true }, kinds := [], alts := [], laidByText := true, laidKinds := [.data, .data, .data, .sentinel, .sentinel, .listed, .data], laidTests := true, laidLooks := .later }
def EncodeMovesCardSaid : Prop := Claim7.holds Tryz.pinned (.plain (OpenSpec.ofChange encodeMovesSpec)) encodeMovesCard

/-- THE SECOND FORM's CARD OF 'pilasterlaw25.EncodeSems'. -/
def encodeSemsUptoCard : Claim7 := { stood := { row := encodeSemsUptoRow, standIns := [], harness := (true, "91d3dbd8630e42c044ce60b388aaf9523d879ebce0e8b6d2a457897e8ca61c37"), looks := true }, kinds := [], alts := [], laidByText := true, laidKinds := [.data, .data, .data, .sentinel, .sentinel, .listed, .data], laidTests := true, laidLooks := .later }
def EncodeSemsUptoCardSaid : Prop := Claim7.holds Tryz.pinned (.plain (OpenSpec.upto encodeSemsSpec)) encodeSemsUptoCard

/-- THE SECOND FORM's CARD OF 'pilasterlaw25.EncodeMoves'. -/
def encodeMovesUptoCard : Claim7 := { stood := { row := encodeMovesUptoRow, standIns := [], harness := (true, "91d3dbd8630e42c044ce60b388aaf9523d879ebce0e8b6d2a457897e8ca61c37"), looks := true }, kinds := [], alts := [], laidByText := true, laidKinds := [.data, .data, .data, .sentinel, .sentinel, .listed, .data], laidTests := true, laidLooks := .later }
def EncodeMovesUptoCardSaid : Prop := Claim7.holds Tryz.pinned (.plain (OpenSpec.upto encodeMovesSpec)) encodeMovesUptoCard
end Rows
end Go.Proofs.YtblbepjnkehoaaaGreatDoor
