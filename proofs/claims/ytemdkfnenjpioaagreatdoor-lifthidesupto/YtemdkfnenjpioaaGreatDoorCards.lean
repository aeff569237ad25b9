/-
  DERIVED. GIVEN WITH THE SEED: THE CARDS: each row of YtemdkfnenjpioaaGreatDoorRows.lean that lists a variable, with what it lists TIED to the program's text (the seventh form; the later family's looks); each row that meets fmt, with fmt's text TOLD by the authors' own Lean function (tested against real Go, not proved from fmt's source: count such statements apart). THE CARD IS WHAT COUNTS. Prove the row's statement (the work); the ties are given (YtemdkfnenjpioaaGreatDoorTie.lean); close each card by the builder's one call (the guide's Derived/Test/ToyasCard.lean, 'card_holds'). Laid BY PROGRAM, IN A SANDBOX (cutbox-door.mjs). By AI agents, Wed Nov 11 2026. No macro, syntax, notation, axiom, sorry.
-/
import Derived.Test.YtemdkfnenjpioaaGreatDoorRows
import GoSem.ClaimSeven
namespace Go.Proofs.YtemdkfnenjpioaaGreatDoor
namespace Rows

/-- THE TIED CARD OF 'pilasterlaw35.LiftHides'. -/
def liftHidesCard : Claim7 := { stood := { row := liftHidesRow, standIns := [], harness := (true, "df34bd6cafd4d2a5c0f1810d38818406c9a63010611356a9a831209834d215a0"), looks := true }, kinds := [], alts := [], laidByText := true, laidKinds := [.data, .data, .data, .sentinel, .sentinel, .listed, .data], laidTests := true, laidLooks := .later }
def LiftHidesCardSaid : Prop := Claim7.holds Tryz.pinned (.plain (OpenSpec.ofChange liftHidesSpec)) liftHidesCard

/-- THE SECOND FORM's CARD OF 'pilasterlaw35.LiftHides'. -/
def liftHidesUptoCard : Claim7 := { stood := { row := liftHidesUptoRow, standIns := [], harness := (true, "df34bd6cafd4d2a5c0f1810d38818406c9a63010611356a9a831209834d215a0"), looks := true }, kinds := [], alts := [], laidByText := true, laidKinds := [.data, .data, .data, .sentinel, .sentinel, .listed, .data], laidTests := true, laidLooks := .later }
def LiftHidesUptoCardSaid : Prop := Claim7.holds Tryz.pinned (.plain (OpenSpec.upto liftHidesSpec)) liftHidesUptoCard
end Rows
end Go.Proofs.YtemdkfnenjpioaaGreatDoor
