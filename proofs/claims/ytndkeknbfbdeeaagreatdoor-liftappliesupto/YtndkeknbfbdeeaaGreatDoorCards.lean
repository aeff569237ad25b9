/-
  DERIVED. GIVEN WITH THE SEED: THE CARDS: each row of YtndkeknbfbdeeaaGreatDoorRows.lean that lists a variable, with what it lists TIED to the program's text (the seventh form; the later family's looks); each row that meets fmt, with fmt's text TOLD by the authors' own Lean function (tested against real Go, not proved from fmt's source: count such statements apart). THE CARD IS WHAT COUNTS. Prove the row's statement (the work); the ties are given (YtndkeknbfbdeeaaGreatDoorTie.lean); close each card by the builder's one call (the guide's Derived/Test/ToyasCard.lean, 'card_holds'). Laid BY PROGRAM, IN A SANDBOX (cutbox-door.mjs). By AI agents, Wed Nov 11 2026. No macro, syntax, notation, axiom, sorry.
-/
import Derived.Test.YtndkeknbfbdeeaaGreatDoorRows
import GoSem.ClaimSeven
namespace Go.Proofs.YtndkeknbfbdeeaaGreatDoor
namespace Rows

/-- THE TIED CARD OF 'pilasterlaw35.LiftApplies'. -/
def liftAppliesCard : Claim7 := { stood := { row := liftAppliesRow, standIns := [], harness := (true, "2703945e663400dc981b12f47fcf2ff48555bbf068e74c9db929bd98e313f407"), looks := true }, kinds := [], alts := [], laidByText := true, laidKinds := [.data, .data, .data, .sentinel, .sentinel, .listed, .data], laidTests := true, laidLooks := .later }
def LiftAppliesCardSaid : Prop := Claim7.holds Tryz.pinned (.plain (OpenSpec.ofChange liftAppliesSpec)) liftAppliesCard

/-- THE SECOND FORM's CARD OF 'pilasterlaw35.LiftApplies'. -/
def liftAppliesUptoCard : Claim7 := { stood := { row := liftAppliesUptoRow, standIns := [], harness := (true, "2703945e663400dc981b12f47fcf2ff48555bbf068e74c9db929bd98e313f407"), looks := true }, kinds := [], alts := [], laidByText := true, laidKinds := [.data, .data, .data, .sentinel, .sentinel, .listed, .data], laidTests := true, laidLooks := .later }
def LiftAppliesUptoCardSaid : Prop := Claim7.holds Tryz.pinned (.plain (OpenSpec.upto liftAppliesSpec)) liftAppliesUptoCard
end Rows
end Go.Proofs.YtndkeknbfbdeeaaGreatDoor
