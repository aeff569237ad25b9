/- Joined: Gl. -/
set_option linter.unusedSimpArgs false
set_option linter.unusedVariables false
/- The numbers of three package variables of the library in this program: the greatest length, the table of blanks, the error for numbers out of range. -/
namespace Go.Proofs.YtblbepjnkehoaaaGreatDoor
def gMxl : Nat := 1
def gAsc : Nat := 6
def gRng : Nat := 3
end Go.Proofs.YtblbepjnkehoaaaGreatDoor
