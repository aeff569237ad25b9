/- Joined: Gl. -/
set_option linter.unusedSimpArgs false
set_option linter.unusedVariables false
set_option linter.unusedSectionVars false
set_option linter.all false
set_option maxHeartbeats 4000000
set_option maxRecDepth 10000
namespace Go.Proofs.YtemdkfnenjpioaaGreatDoor
def gMxl:Nat:=1
def P1:Nat:=6
def Of:Nat:=3
def gBrk:Nat:=121
end Go.Proofs.YtemdkfnenjpioaaGreatDoor
