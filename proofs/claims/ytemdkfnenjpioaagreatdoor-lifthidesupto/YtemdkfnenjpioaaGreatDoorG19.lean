/- Joined: LS2. -/
import Derived.Shelf.SlicesQ.Reverse
import Derived.Shelf.SlicesE.Clone
import Derived.Test.YtemdkfnenjpioaaGreatDoorProg
set_option linter.unusedSimpArgs false
set_option linter.unusedVariables false
set_option linter.unusedSectionVars false
set_option linter.all false
set_option maxHeartbeats 4000000
set_option maxRecDepth 10000
namespace Go.Proofs
open Go.Shelf
def Tryz.lays35_ren:Go.Shelf.Ren:=⟨fun | 35=>131 | n=>n,fun | 22=>23 | 23=>28 | n=>n,fun | n=>n⟩
theorem Tryz.lays35:Go.Proofs.SlLaysE0.n35 Tryz.prog Tryz.lays35_ren:={
 mixed:=by kernel_rfl
 f35:=⟨Tryz.f131.name,by decide,Tryz.func131.trans (congrArg some (by kernel_rfl))⟩
 t0:=Tryz.underlying0
 a0:=Tryz.isAgg0
 z0:=Tryz.sizeOf0
 v0:=Tryz.zeroValue0
 t3:=Tryz.underlying3
 a3:=Tryz.isAgg3
 z3:=Tryz.sizeOf3
 v3:=Tryz.zeroValue3
 t4:=Tryz.underlying4
 a4:=Tryz.isAgg4
 z4:=Tryz.sizeOf4
 v4:=Tryz.zeroValue4
 t22:=Tryz.underlying23
 a22:=Tryz.isAgg23
 z22:=Tryz.sizeOf23
 v22:=Tryz.zeroValue23 }
def Tryz.lays41_ren:Go.Shelf.Ren:=⟨fun | 41=>130 | n=>n,fun | 22=>23 | 23=>28 | n=>n,fun | n=>n⟩
theorem Tryz.lays41:Go.Proofs.SlLaysE0.n41 Tryz.prog Tryz.lays41_ren:={
 mixed:=by kernel_rfl
 f41:=⟨Tryz.f130.name,by decide,Tryz.func130.trans (congrArg some (by kernel_rfl))⟩
 t4:=Tryz.underlying4
 a4:=Tryz.isAgg4
 z4:=Tryz.sizeOf4
 v4:=Tryz.zeroValue4
 t22:=Tryz.underlying23
 a22:=Tryz.isAgg23
 z22:=Tryz.sizeOf23
 v22:=Tryz.zeroValue23 }
end Go.Proofs
