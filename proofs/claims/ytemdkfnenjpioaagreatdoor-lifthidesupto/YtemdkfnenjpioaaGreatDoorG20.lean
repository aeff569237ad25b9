/- Joined: LS1. -/
import Derived.Shelf.Sort.Plain
import Derived.Shelf.Slices.CompactI
import Derived.Shelf.Slices.In.SortNone
import Derived.Test.YtemdkfnenjpioaaGreatDoorProg
set_option linter.unusedSimpArgs false
set_option linter.unusedVariables false
set_option linter.unusedSectionVars false
set_option linter.all false
set_option maxHeartbeats 4000000
set_option maxRecDepth 10000
namespace Go.Proofs
open Go.Shelf
def Tryz.lays189_ren:Go.Shelf.Ren:=⟨fun | 189=>193 | 125=>225 | 257=>224 | 128=>250 | 129=>251 | 294=>241 | 295=>242 | 296=>243 | 297=>244 | 298=>245 | 299=>246 | 216=>247 | 300=>248 | 301=>249 | 328=>264 | 329=>265 | 330=>266 | 331=>267 | 332=>268 | 215=>269 | 343=>283 | n=>n,fun | 28=>186 | 3=>3 | 46=>234 | 0=>0 | 51=>261 | 53=>238 | 4=>4 | 183=>254 | 182=>253 | 131=>126 | 5=>5 | 9=>9 | 218=>270 | 222=>64 | 228=>282 | 229=>249 | n=>n,fun | n=>n⟩
theorem Tryz.lays189:Go.Proofs.Lays.n189 Tryz.prog Tryz.lays189_ren:={
 mixed:=by kernel_rfl
 f125:=Tryz.func225.trans (congrArg some (by kernel_rfl))
 f128:=Tryz.func250.trans (congrArg some (by kernel_rfl))
 f129:=Tryz.func251.trans (congrArg some (by kernel_rfl))
 f189:=Tryz.func193.trans (congrArg some (by kernel_rfl))
 f215:=Tryz.func269.trans (congrArg some (by kernel_rfl))
 f216:=Tryz.func247.trans (congrArg some (by kernel_rfl))
 f257:=Tryz.func224.trans (congrArg some (by kernel_rfl))
 f294:=Tryz.func241.trans (congrArg some (by kernel_rfl))
 f295:=Tryz.func242.trans (congrArg some (by kernel_rfl))
 f296:=Tryz.func243.trans (congrArg some (by kernel_rfl))
 f297:=Tryz.func244.trans (congrArg some (by kernel_rfl))
 f298:=Tryz.func245.trans (congrArg some (by kernel_rfl))
 f299:=Tryz.func246.trans (congrArg some (by kernel_rfl))
 f300:=Tryz.func248.trans (congrArg some (by kernel_rfl))
 f301:=Tryz.func249.trans (congrArg some (by kernel_rfl))
 f328:=Tryz.func264.trans (congrArg some (by kernel_rfl))
 f329:=Tryz.func265.trans (congrArg some (by kernel_rfl))
 f330:=Tryz.func266.trans (congrArg some (by kernel_rfl))
 f331:=Tryz.func267.trans (congrArg some (by kernel_rfl))
 f332:=Tryz.func268.trans (congrArg some (by kernel_rfl))
 f343:=Tryz.func283.trans (congrArg some (by kernel_rfl))
 t0:=Tryz.underlying0
 a0:=Tryz.isAgg0
 z0:=Tryz.sizeOf0
 v0:=Tryz.zeroValue0
 t3:=Tryz.underlying3
 a3:=Tryz.isAgg3
 z3:=Tryz.sizeOf3
 v3:=Tryz.zeroValue3
 t4:=Tryz.underlying4
 a4:=Tryz.isAgg4
 z4:=Tryz.sizeOf4
 v4:=Tryz.zeroValue4
 t5:=Tryz.underlying5
 a5:=Tryz.isAgg5
 z5:=Tryz.sizeOf5
 v5:=Tryz.zeroValue5
 t9:=Tryz.underlying9
 a9:=Tryz.isAgg9
 z9:=Tryz.sizeOf9
 v9:=Tryz.zeroValue9
 t28:=Tryz.underlying186
 a28:=Tryz.isAgg186
 z28:=Tryz.sizeOf186
 v28:=Tryz.zeroValue186
 t46:=Tryz.underlying234
 a46:=Tryz.isAgg234
 z46:=Tryz.sizeOf234
 v46:=Tryz.zeroValue234
 t51:=Tryz.underlying261
 a51:=Tryz.isAgg261
 z51:=Tryz.sizeOf261
 v51:=Tryz.zeroValue261
 t53:=Tryz.underlying238
 a53:=Tryz.isAgg238
 z53:=Tryz.sizeOf238
 v53:=Tryz.zeroValue238
 t131:=Tryz.underlying126
 a131:=Tryz.isAgg126
 z131:=Tryz.sizeOf126
 v131:=Tryz.zeroValue126
 t182:=Tryz.underlying253
 a182:=Tryz.isAgg253
 z182:=Tryz.sizeOf253
 v182:=Tryz.zeroValue253
 t183:=Tryz.underlying254
 a183:=Tryz.isAgg254
 z183:=Tryz.sizeOf254
 v183:=Tryz.zeroValue254
 t218:=Tryz.underlying270
 a218:=Tryz.isAgg270
 z218:=Tryz.sizeOf270
 v218:=Tryz.zeroValue270
 t222:=Tryz.underlying64
 a222:=Tryz.isAgg64
 z222:=Tryz.sizeOf64
 v222:=Tryz.zeroValue64
 t228:=Tryz.underlying282
 a228:=Tryz.isAgg282
 z228:=Tryz.sizeOf282
 v228:=Tryz.zeroValue282
 t229:=Tryz.underlying249
 a229:=Tryz.isAgg249
 z229:=Tryz.sizeOf249
 v229:=Tryz.zeroValue249 }
def Tryz.laysNm220_ren:Go.Shelf.Ren:=⟨fun | 20=>223 | n=>n,fun | 22=>186 | 3=>3 | 4=>4 | 0=>0 | n=>n,fun | n=>n⟩
theorem Tryz.laysNm220:Go.Proofs.Lays2.n20 Tryz.prog Tryz.laysNm220_ren:={
 mixed:=by kernel_rfl
 f20:=Tryz.func223.trans (congrArg some (by kernel_rfl))
 t0:=Tryz.underlying0
 a0:=Tryz.isAgg0
 z0:=Tryz.sizeOf0
 v0:=Tryz.zeroValue0
 t3:=Tryz.underlying3
 a3:=Tryz.isAgg3
 z3:=Tryz.sizeOf3
 v3:=Tryz.zeroValue3
 t4:=Tryz.underlying4
 a4:=Tryz.isAgg4
 z4:=Tryz.sizeOf4
 v4:=Tryz.zeroValue4
 t22:=Tryz.underlying186
 a22:=Tryz.isAgg186
 z22:=Tryz.sizeOf186
 v22:=Tryz.zeroValue186
 i3:=by kernel_rfl }
end Go.Proofs
