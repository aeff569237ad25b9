/- Joined: L1 K19 K20 K21 K22 K23 K26 D27 K28 D29. -/
import Derived.Shelf.Strings.Cut
import Derived.Shelf.Strings.Fields
import Derived.Shelf.Strconv.AtoiAll
import Derived.Test.YtemdkfnenjpioaaGreatDoorProg
import Derived.Test.YtemdkfnenjpioaaGreatDoorG15
import Derived.Test.YtemdkfnenjpioaaGreatDoorG14
set_option linter.unusedSimpArgs false
set_option linter.unusedVariables false
set_option linter.unusedSectionVars false
set_option linter.all false
set_option maxHeartbeats 4000000
set_option maxRecDepth 10000
namespace Go.Proofs
open Go.Shelf
def Tryz.lays145_ren:Go.Shelf.Ren:=⟨fun | 145=>200 | 220=>226 | 219=>252 | 217=>270 | 225=>271 | 224=>272 | 267=>273 | 266=>284 | 314=>285 | n=>n,fun | 9=>9 | 4=>4 | 59=>217 | 3=>3 | 5=>5 | 46=>234 | 146=>284 | 51=>261 | n=>n,fun | 1=>1 | n=>n⟩
theorem Tryz.lays145:Go.Proofs.Lays.n145 Tryz.prog Tryz.lays145_ren:={
 mixed:=by kernel_rfl
 f145:=Tryz.func200.trans (congrArg some (by kernel_rfl))
 f217:=Tryz.func270.trans (congrArg some (by kernel_rfl))
 f219:=Tryz.func252.trans (congrArg some (by kernel_rfl))
 f220:=Tryz.func226.trans (congrArg some (by kernel_rfl))
 f224:=Tryz.func272.trans (congrArg some (by kernel_rfl))
 f225:=Tryz.func271.trans (congrArg some (by kernel_rfl))
 f266:=Tryz.func284.trans (congrArg some (by kernel_rfl))
 f267:=Tryz.func273.trans (congrArg some (by kernel_rfl))
 f314:=Tryz.func285.trans (congrArg some (by kernel_rfl))
 t3:=Tryz.underlying3
 a3:=Tryz.isAgg3
 z3:=Tryz.sizeOf3
 v3:=Tryz.zeroValue3
 t4:=Tryz.underlying4
 a4:=Tryz.isAgg4
 z4:=Tryz.sizeOf4
 v4:=Tryz.zeroValue4
 t5:=Tryz.underlying5
 a5:=Tryz.isAgg5
 z5:=Tryz.sizeOf5
 v5:=Tryz.zeroValue5
 t9:=Tryz.underlying9
 a9:=Tryz.isAgg9
 z9:=Tryz.sizeOf9
 v9:=Tryz.zeroValue9
 t46:=Tryz.underlying234
 a46:=Tryz.isAgg234
 z46:=Tryz.sizeOf234
 v46:=Tryz.zeroValue234
 t51:=Tryz.underlying261
 a51:=Tryz.isAgg261
 z51:=Tryz.sizeOf261
 v51:=Tryz.zeroValue261
 t59:=Tryz.underlying217
 a59:=Tryz.isAgg217
 z59:=Tryz.sizeOf217
 v59:=Tryz.zeroValue217
 t146:=Tryz.underlying284
 a146:=Tryz.isAgg284
 z146:=Tryz.sizeOf284
 v146:=Tryz.zeroValue284
 g1:=by kernel_rfl }
def Tryz.laysC172_ren:Go.Shelf.Ren:=⟨fun | 172=>227 | 244=>253 | 245=>254 | 247=>274 | 279=>275 | 280=>276 | 281=>277 | 282=>278 | 287=>286 | 316=>287 | 171=>107 | 205=>288 | 321=>291 | 322=>292 | 243=>172 | 246=>204 | 283=>229 | 284=>230 | 285=>231 | 286=>232 | 129=>251 | 317=>255 | 318=>256 | 319=>257 | 320=>258 | 337=>279 | 338=>280 | n=>n,fun | 9=>9 | 3=>3 | 75=>197 | 76=>198 | 4=>4 | 5=>5 | 167=>276 | 37=>100 | 0=>0 | 85=>277 | 2=>2 | 168=>279 | 53=>238 | 175=>286 | 46=>234 | 210=>290 | 127=>147 | 145=>298 | 143=>296 | 21=>21 | 171=>237 | 173=>241 | 212=>265 | 51=>261 | 20=>20 | 213=>266 | 232=>292 | 233=>293 | 80=>107 | n=>n,fun | 15=>2 | 16=>3 | 17=>0 | 18=>4 | 19=>5 | n=>n⟩
theorem Tryz.laysC172:Go.Proofs.LaysC.n172 Tryz.prog Tryz.laysC172_ren:={
 mixed:=by kernel_rfl
 f129:=Tryz.func251.trans (congrArg some (by kernel_rfl))
 f171:=Tryz.func107.trans (congrArg some (by kernel_rfl))
 f172:=Tryz.func227.trans (congrArg some (by kernel_rfl))
 f205:=Tryz.func288.trans (congrArg some (by kernel_rfl))
 f243:=Tryz.func172.trans (congrArg some (by kernel_rfl))
 f244:=Tryz.func253.trans (congrArg some (by kernel_rfl))
 f245:=Tryz.func254.trans (congrArg some (by kernel_rfl))
 f246:=Tryz.func204.trans (congrArg some (by kernel_rfl))
 f247:=Tryz.func274.trans (congrArg some (by kernel_rfl))
 f279:=Tryz.func275.trans (congrArg some (by kernel_rfl))
 f280:=Tryz.func276.trans (congrArg some (by kernel_rfl))
 f281:=Tryz.func277.trans (congrArg some (by kernel_rfl))
 f282:=Tryz.func278.trans (congrArg some (by kernel_rfl))
 f283:=Tryz.func229.trans (congrArg some (by kernel_rfl))
 f284:=Tryz.func230.trans (congrArg some (by kernel_rfl))
 f285:=Tryz.func231.trans (congrArg some (by kernel_rfl))
 f286:=Tryz.func232.trans (congrArg some (by kernel_rfl))
 f287:=Tryz.func286.trans (congrArg some (by kernel_rfl))
 f316:=Tryz.func287.trans (congrArg some (by kernel_rfl))
 f317:=Tryz.func255.trans (congrArg some (by kernel_rfl))
 f318:=Tryz.func256.trans (congrArg some (by kernel_rfl))
 f319:=Tryz.func257.trans (congrArg some (by kernel_rfl))
 f320:=Tryz.func258.trans (congrArg some (by kernel_rfl))
 f321:=Tryz.func291.trans (congrArg some (by kernel_rfl))
 f322:=Tryz.func292.trans (congrArg some (by kernel_rfl))
 f337:=Tryz.func279.trans (congrArg some (by kernel_rfl))
 f338:=Tryz.func280.trans (congrArg some (by kernel_rfl))
 t0:=Tryz.underlying0
 a0:=Tryz.isAgg0
 z0:=Tryz.sizeOf0
 v0:=Tryz.zeroValue0
 t2:=Tryz.underlying2
 a2:=Tryz.isAgg2
 z2:=Tryz.sizeOf2
 v2:=Tryz.zeroValue2
 t3:=Tryz.underlying3
 a3:=Tryz.isAgg3
 z3:=Tryz.sizeOf3
 v3:=Tryz.zeroValue3
 t4:=Tryz.underlying4
 a4:=Tryz.isAgg4
 z4:=Tryz.sizeOf4
 v4:=Tryz.zeroValue4
 t5:=Tryz.underlying5
 a5:=Tryz.isAgg5
 z5:=Tryz.sizeOf5
 v5:=Tryz.zeroValue5
 t9:=Tryz.underlying9
 a9:=Tryz.isAgg9
 z9:=Tryz.sizeOf9
 v9:=Tryz.zeroValue9
 t20:=Tryz.underlying20
 a20:=Tryz.isAgg20
 z20:=Tryz.sizeOf20
 v20:=Tryz.zeroValue20
 t21:=Tryz.underlying21
 a21:=Tryz.isAgg21
 z21:=Tryz.sizeOf21
 v21:=Tryz.zeroValue21
 t37:=Tryz.underlying100
 a37:=Tryz.isAgg100
 z37:=Tryz.sizeOf100
 v37:=Tryz.zeroValue100
 t46:=Tryz.underlying234
 a46:=Tryz.isAgg234
 z46:=Tryz.sizeOf234
 v46:=Tryz.zeroValue234
 t51:=Tryz.underlying261
 a51:=Tryz.isAgg261
 z51:=Tryz.sizeOf261
 v51:=Tryz.zeroValue261
 t53:=Tryz.underlying238
 a53:=Tryz.isAgg238
 z53:=Tryz.sizeOf238
 v53:=Tryz.zeroValue238
 t75:=Tryz.underlying197
 a75:=Tryz.isAgg197
 z75:=Tryz.sizeOf197
 v75:=Tryz.zeroValue197
 t76:=Tryz.underlying198
 a76:=Tryz.isAgg198
 z76:=Tryz.sizeOf198
 v76:=Tryz.zeroValue198
 t85:=Tryz.underlying277
 a85:=Tryz.isAgg277
 z85:=Tryz.sizeOf277
 v85:=Tryz.zeroValue277
 t127:=Tryz.underlying147
 a127:=Tryz.isAgg147
 z127:=Tryz.sizeOf147
 v127:=Tryz.zeroValue147
 t143:=Tryz.underlying296
 a143:=Tryz.isAgg296
 z143:=Tryz.sizeOf296
 v143:=Tryz.zeroValue296
 t145:=Tryz.underlying298
 a145:=Tryz.isAgg298
 z145:=Tryz.sizeOf298
 v145:=Tryz.zeroValue298
 t167:=Tryz.underlying276
 a167:=Tryz.isAgg276
 z167:=Tryz.sizeOf276
 v167:=Tryz.zeroValue276
 t168:=Tryz.underlying279
 a168:=Tryz.isAgg279
 z168:=Tryz.sizeOf279
 v168:=Tryz.zeroValue279
 t171:=Tryz.underlying237
 a171:=Tryz.isAgg237
 z171:=Tryz.sizeOf237
 v171:=Tryz.zeroValue237
 t173:=Tryz.underlying241
 a173:=Tryz.isAgg241
 z173:=Tryz.sizeOf241
 v173:=Tryz.zeroValue241
 t175:=Tryz.underlying286
 a175:=Tryz.isAgg286
 z175:=Tryz.sizeOf286
 v175:=Tryz.zeroValue286
 t210:=Tryz.underlying290
 a210:=Tryz.isAgg290
 z210:=Tryz.sizeOf290
 v210:=Tryz.zeroValue290
 t212:=Tryz.underlying265
 a212:=Tryz.isAgg265
 z212:=Tryz.sizeOf265
 v212:=Tryz.zeroValue265
 t213:=Tryz.underlying266
 a213:=Tryz.isAgg266
 z213:=Tryz.sizeOf266
 t232:=Tryz.underlying292
 a232:=Tryz.isAgg292
 z232:=Tryz.sizeOf292
 v232:=Tryz.zeroValue292
 t233:=Tryz.underlying293
 a233:=Tryz.isAgg293
 z233:=Tryz.sizeOf293
 v233:=Tryz.zeroValue293
 g15:=by kernel_rfl
 g16:=by kernel_rfl
 g17:=by kernel_rfl
 g18:=by kernel_rfl
 g19:=by kernel_rfl
 t80:=Tryz.underlying107
 a80:=Tryz.isAgg107
 z80:=Tryz.sizeOf107
 v80:=Tryz.zeroValue107
 i0:=by kernel_rfl
 i2:=by kernel_rfl
 i3:=by kernel_rfl
 i4:=by kernel_rfl
 i5:=by kernel_rfl
 i9:=by kernel_rfl
 i20:=by kernel_rfl
 i21:=by kernel_rfl
 i37:=by kernel_rfl
 i46:=by kernel_rfl
 i51:=by kernel_rfl
 i53:=by kernel_rfl
 i75:=by kernel_rfl
 i76:=by kernel_rfl
 i80:=by kernel_rfl
 i85:=by kernel_rfl
 i127:=by kernel_rfl
 i143:=by kernel_rfl
 i145:=by kernel_rfl
 i167:=by kernel_rfl
 i168:=by kernel_rfl
 i171:=by kernel_rfl
 i173:=by kernel_rfl
 i175:=by kernel_rfl
 i210:=by kernel_rfl
 i212:=by kernel_rfl
 i232:=by kernel_rfl
 i233:=by kernel_rfl
 m15:=by kernel_rfl
 m16:=by kernel_rfl
 m17:=by kernel_rfl
 m18:=by kernel_rfl
 m19:=by kernel_rfl
 c0:=by kernel_rfl
 c2:=by kernel_rfl
 c3:=by kernel_rfl
 c4:=by kernel_rfl
 c5:=by kernel_rfl
 c9:=by kernel_rfl
 c20:=by kernel_rfl
 c21:=by kernel_rfl
 c37:=by kernel_rfl
 c46:=by kernel_rfl
 c51:=by kernel_rfl
 c53:=by kernel_rfl
 c75:=by kernel_rfl
 c76:=by kernel_rfl
 c80:=by kernel_rfl
 c85:=by kernel_rfl
 c127:=by kernel_rfl
 c143:=by kernel_rfl
 c145:=by kernel_rfl
 c167:=by kernel_rfl
 c168:=by kernel_rfl
 c171:=by kernel_rfl
 c173:=by kernel_rfl
 c175:=by kernel_rfl
 c210:=by kernel_rfl
 c212:=by kernel_rfl
 c213:=by kernel_rfl
 c232:=by kernel_rfl
 c233:=by kernel_rfl }
def Tryz.lays157_ren:Go.Shelf.Ren:=⟨fun | 157=>294 | 229=>296 | 199=>297 | 261=>298 | 311=>299 | 312=>300 | n=>n,fun | 9=>9 | 31=>26 | 3=>3 | 5=>5 | 4=>4 | 119=>302 | 0=>0 | 40=>304 | 152=>305 | 21=>21 | 154=>307 | 51=>261 | 141=>309 | 196=>313 | 193=>310 | 198=>316 | 49=>314 | 194=>311 | 201=>319 | 226=>321 | 46=>234 | 227=>322 | n=>n,fun | 0=>6 | 6=>7 | n=>n⟩
theorem Tryz.lays157:Go.Proofs.Lays.n157 Tryz.prog Tryz.lays157_ren:={
 mixed:=by kernel_rfl
 f157:=Tryz.func294.trans (congrArg some (by kernel_rfl))
 f199:=Tryz.func297.trans (congrArg some (by kernel_rfl))
 f229:=Tryz.func296.trans (congrArg some (by kernel_rfl))
 f261:=Tryz.func298.trans (congrArg some (by kernel_rfl))
 f311:=Tryz.func299.trans (congrArg some (by kernel_rfl))
 f312:=Tryz.func300.trans (congrArg some (by kernel_rfl))
 t0:=Tryz.underlying0
 a0:=Tryz.isAgg0
 z0:=Tryz.sizeOf0
 v0:=Tryz.zeroValue0
 t3:=Tryz.underlying3
 a3:=Tryz.isAgg3
 z3:=Tryz.sizeOf3
 v3:=Tryz.zeroValue3
 t4:=Tryz.underlying4
 a4:=Tryz.isAgg4
 z4:=Tryz.sizeOf4
 v4:=Tryz.zeroValue4
 t5:=Tryz.underlying5
 a5:=Tryz.isAgg5
 z5:=Tryz.sizeOf5
 v5:=Tryz.zeroValue5
 t9:=Tryz.underlying9
 a9:=Tryz.isAgg9
 z9:=Tryz.sizeOf9
 v9:=Tryz.zeroValue9
 t21:=Tryz.underlying21
 a21:=Tryz.isAgg21
 z21:=Tryz.sizeOf21
 v21:=Tryz.zeroValue21
 t31:=Tryz.underlying26
 a31:=Tryz.isAgg26
 z31:=Tryz.sizeOf26
 v31:=Tryz.zeroValue26
 t40:=Tryz.underlying304
 a40:=Tryz.isAgg304
 z40:=Tryz.sizeOf304
 v40:=Tryz.zeroValue304
 t46:=Tryz.underlying234
 a46:=Tryz.isAgg234
 z46:=Tryz.sizeOf234
 v46:=Tryz.zeroValue234
 t49:=Tryz.underlying314
 a49:=Tryz.isAgg314
 z49:=Tryz.sizeOf314
 v49:=Tryz.zeroValue314
 t51:=Tryz.underlying261
 a51:=Tryz.isAgg261
 z51:=Tryz.sizeOf261
 v51:=Tryz.zeroValue261
 t119:=Tryz.underlying302
 a119:=Tryz.isAgg302
 z119:=Tryz.sizeOf302
 t141:=Tryz.underlying309
 a141:=Tryz.isAgg309
 z141:=Tryz.sizeOf309
 v141:=Tryz.zeroValue309
 t152:=Tryz.underlying305
 a152:=Tryz.isAgg305
 z152:=Tryz.sizeOf305
 v152:=Tryz.zeroValue305
 t154:=Tryz.underlying307
 a154:=Tryz.isAgg307
 z154:=Tryz.sizeOf307
 v154:=Tryz.zeroValue307
 t193:=Tryz.underlying310
 a193:=Tryz.isAgg310
 z193:=Tryz.sizeOf310
 v193:=Tryz.zeroValue310
 t194:=Tryz.underlying311
 a194:=Tryz.isAgg311
 z194:=Tryz.sizeOf311
 v194:=Tryz.zeroValue311
 t196:=Tryz.underlying313
 a196:=Tryz.isAgg313
 z196:=Tryz.sizeOf313
 v196:=Tryz.zeroValue313
 t198:=Tryz.underlying316
 a198:=Tryz.isAgg316
 z198:=Tryz.sizeOf316
 v198:=Tryz.zeroValue316
 t201:=Tryz.underlying319
 a201:=Tryz.isAgg319
 z201:=Tryz.sizeOf319
 v201:=Tryz.zeroValue319
 t226:=Tryz.underlying321
 a226:=Tryz.isAgg321
 z226:=Tryz.sizeOf321
 v226:=Tryz.zeroValue321
 t227:=Tryz.underlying322
 a227:=Tryz.isAgg322
 z227:=Tryz.sizeOf322
 v227:=Tryz.zeroValue322
 g0:=by kernel_rfl
 g6:=by kernel_rfl }
end Go.Proofs
namespace Go.Proofs.YtemdkfnenjpioaaGreatDoor
open Go Go.RowKit
attribute [local simp] Ar aev Ax A7 start AV.cells AV.undef Bc Be Bh Bl Bj AV.isCell Bf A1 Bi
attribute [local simp] fin A9 A8 Bb AV.strip Ay A5 AV.inScope Am A0 As
attribute [local simp] Gg
theorem Aub (l:List (List UInt8)) (s:List UInt8):Ab Tryz.prog Tj [.sl .none (Af l),.str s] [] (.int .i64 (Cz (fun x=>s == x) l 0)) []:=by
 refine Ab.go mixed Aqi (by simp) fun hfit Q hQ=>?_
 have hln:l.length≤1073741824:=by simpa[Bn,AV.fits,A4,Af] using hfit.1.1
 clear hfit
 simp -implicitDefEqProofs[Ab0,Af]
 refine B5 (AWp.loopI [] (fun n f h G=>∃k:Nat,k+n=l.length∧f 8= .int .i64 k∧Cz (fun x=>s == x) (l.drop k) k=Cz (fun x=>s == x) l 0) (l.length) (by simp) ⟨0,by simp,rfl,by simp⟩ ?_)
 rintro n f h G ⟨k,hk,h8,hs⟩
 refine AWp.run mixed fun Q2 hQ2=>?_
 simp -implicitDefEqProofs[AC.dsts,Au,At,Bo,h8]
 by_cases hlt:k < l.length
 · have hd:=List.drop_eq_getElem_cons hlt
   simp -implicitDefEqProofs[hlt]
   refine Cl (fun hb=>?_) (fun hb=>?_)
   · have e:Cz (fun x=>s == x) l 0=k:=by rw[← hs,hd,Cz,if_pos hb]
     simp -implicitDefEqProofs
     refine hQ2 _ _ _ (Dg ?_)
     show KR _ _ Q _ _
     simp -implicitDefEqProofs
     refine hQ _ _ _ ?_
     simp -implicitDefEqProofs[e]
   · simp -implicitDefEqProofs[Ba (n:=(k:Int)+1) (by omega) (by omega)]
     refine hQ2 _ _ _ (Cb (n - 1) (h) rfl (by omega) (by simp -implicitDefEqProofs[AC.dsts,Au,At,Aq]) ?_)
     refine⟨k+1,by omega,by simp[Aq],?_⟩
     rw[← hs,hd,Cz,if_neg (by rw[hb]; simp)]
 · have e:Cz (fun x=>s == x) l 0= -1:=by rw[← hs,List.drop_eq_nil_of_le (by omega),Cz]
   simp -implicitDefEqProofs[hlt]
   refine hQ2 _ _ _ (Ce ?_)
   show KE _ 0 _ Q _ _
   simp -implicitDefEqProofs
   refine hQ _ _ _ ?_
   simp -implicitDefEqProofs[e]
theorem Az6 (l:List (List UInt8)) (s:List UInt8):Ab Tryz.prog Sr [.sl .none (Af l),.str s] [] (.bool (l.any fun x=>x == s)) []:=by
 have e:(l.any fun x=>x == s)=l.any fun x=>s == x:=by congr 1;funext x;rw[Bool.eq_iff_iff]; simp only[beq_iff_eq]; exact eq_comm
 rw[e]
 refine Ab.go mixed Ahy (by simp) fun hfit Q hQ=>?_
 clear hfit
 simp -implicitDefEqProofs[Zr]
 refine Ah (Aub l s) (by simp) (by simp) (by simp[Ag,Aa,Ac,Al,Af,Kd.l]) ?_
 simp -implicitDefEqProofs
 refine hQ _ _ _ ?_
 simp -implicitDefEqProofs[So]
def Xq:List (List UInt8):=[[97,110,100,97,108,115,111],[99,97,115,101],[100,97,116,97],[100,105,118],[101,108,115,101],[101,110,100],[102,110],[102,117,110],[102,117,110,99,116,111,114],[103,101,110,101,114,97,116,105,118,101],[105,102],[105,109,112,111,114,116],[105,110],[105,110,99,108,117,100,101],[108,101,116],[109,111,100],[109,111,100,117,108,101],[111,102],[111,112,101,110],[111,114,101,108,115,101],[112,97,99,107],[115,104,97,114,105,110,103],[115,105,103],[115,105,103,110,97,116,117,114,101],[115,116,114,117,99,116],[115,116,114,117,99,116,117,114,101],[116,104,101,110],[116,121,112,101],[117,110,112,97,99,107],[118,97,108],[119,105,116,104]]
def Y9:List UInt8:=[97,110,100,97,108,115,111,32,99,97,115,101,32,100,97,116,97,32,100,105,118,32,101,108,115,101,32,101,110,100,32,102,110,32,102,117,110,32,102,117,110,99,116,111,114,32,103,101,110,101,114,97,116,105,118,101,32,105,102,32,105,109,112,111,114,116,32,105,110,32,105,110,99,108,117,100,101,32,108,101,116,32,109,111,100,32,109,111,100,117,108,101,32,111,102,32,111,112,101,110,32,111,114,101,108,115,101,32,112,97,99,107,32,115,104,97,114,105,110,103,32,115,105,103,32,115,105,103,110,97,116,117,114,101,32,115,116,114,117,99,116,32,115,116,114,117,99,116,117,114,101,32,116,104,101,110,32,116,121,112,101,32,117,110,112,97,99,107,32,118,97,108,32,119,105,116,104]
theorem Zo:Lib.fields Y9=Xq:=by decide
theorem Atg: ∀c:Nat,c < 256→Lib.isSp (UInt8.ofNat c)=Uc c:=by decide
theorem Axk (s:List UInt8) (hasc: ∀b ∈ s,b.toNat < 128) (hlen: ∀x ∈ Lib.fields s,x.length≤A4) (hlen2:(Lib.fields s).length≤A4):Ab Tryz.prog Ry [.str s] [] (.sl .none (Af (Lib.fields s))) []:=by
 refine Ab.below (by kernel_rfl) fun F g w vs hG hlive hr=>?_
 simp only[RL] at hr
 obtain⟨v,r,rfl,hv,rfl⟩:=hr
 simp only[R] at hv
 obtain⟨rfl,hs⟩:=hv
 refine (Any.strings_Fields_core Tryz.lays157 (by kernel_rfl) ⟨s.toArray⟩ w (by simp[ByteArray.size,A4] at hs ⊢; omega) (fun j b hb=>?_) (fun c hc=>?_)).mono ?_
 · exact hasc b (List.mem_of_getElem? (by simpa using hb))
 · rw[Atg c hc,show Tryz.lays157_ren.g 0=P1 from by kernel_rfl]; exact (hG.asc c hc).2
 · rintro e w' ⟨rfl,rfl⟩
   refine⟨_,rfl,⟨rfl,rfl⟩,by simp,fun k hk=>Below.heap_alloc _ _ _ hk,fun F' hF hF'=>?_⟩
   unfold R
   refine⟨by simpa[Af] using hlen2,.inr ⟨w.heap.size,0,none,(Lib.fields s).length,1,by simp[Af],by simp[Af],⟨by omega,.inr rfl⟩,?_,trivial⟩⟩
   refine RE_strs _ 0 (fun o=>hF' _ _ (Nat.le_refl _) (by simp)) hlen fun j x hx=>?_
   simp only[World.cell?,World.alloc,Array.getElem?_push]
   simp[hx]
theorem Aq9 (s:List UInt8):Ab Tryz.prog Rg [.str s] [] (.bool (Xq.any fun x=>x == s)) []:=by
 refine Ab.go mixed Ah0 (by simp) fun hfit Q hQ=>?_
 clear hfit
 have hk:([97,110,100,97,108,115,111,32,99,97,115,101,32,100,97,116,97,32,100,105,118,32,101,108,115,101,32,101,110,100,32,102,110,32,102,117,110,32,102,117,110,99,116,111,114,32,103,101,110,101,114,97,116,105,118,101,32,105,102,32,105,109,112,111,114,116,32,105,110,32,105,110,99,108,117,100,101,32,108,101,116,32,109,111,100,32,109,111,100,117,108,101,32,111,102,32,111,112,101,110,32,111,114,101,108,115,101,32,112,97,99,107,32,115,104,97,114,105,110,103,32,115,105,103,32,115,105,103,110,97,116,117,114,101,32,115,116,114,117,99,116,32,115,116,114,117,99,116,117,114,101,32,116,104,101,110,32,116,121,112,101,32,117,110,112,97,99,107,32,118,97,108,32,119,105,116,104]:List UInt8)=Y9:=rfl
 have hc:=Axk Y9 (by decide) (by rw[Zo]; decide) (by rw[Zo]; decide)
 rw[Zo] at hc
 simp -implicitDefEqProofs[Aam,hk]
 refine Ah (hc) (by simp) (by simp) (by simp[Ag,Aa,Ac,Al,Af,Kd.l]) ?_
 simp -implicitDefEqProofs
 refine Ah (Az6 Xq s) (by simp) (by simp) (by simp[Ag,Aa,Ac,Al,Af,Kd.l]) ?_
 simp -implicitDefEqProofs
 refine hQ _ _ _ ?_
 simp -implicitDefEqProofs
def Xv (s:List UInt8):Bool:=E8 s 1 && !(Xq.any fun x=>x == s)
def Dq:List UInt8→List UInt8 × List UInt8 × Bool
 | []=>([],[],false)
 | b :: l=>if b == 46 then ([],l,true) else (b :: (Dq l).1,(Dq l).2)
theorem Ag7: ∀s:List UInt8,(0≤Lib.index s [46]∧Dq s=(s.take (Lib.index s [46]).toNat,s.drop ((Lib.index s [46]).toNat+1),true))∨(Lib.index s [46]= -1∧Dq s=(s,[],false))
 | []=>.inr ⟨by simp[Lib.index],rfl⟩
 | b :: l=>by
   by_cases hb:b=46
   · subst hb
     left
     simp[Lib.index,Dq,List.isPrefixOf]
   · have hne:([46]:List UInt8).isPrefixOf (b :: l)=false:=by simp[List.isPrefixOf,Ne.symm hb]
     have hc:Dq (b :: l)=(b :: (Dq l).1,(Dq l).2):=by simp[Dq,hb]
     rcases Ag7 l with⟨h1,h2⟩ | ⟨h1,h2⟩
     · left
       have e:Lib.index (b :: l) [46]=Lib.index l [46]+1:=by
        rw[Lib.index,hne]
        have:(Lib.index l [46] == -1)=false:=by simp;omega
        simp[this]
       have e2:(Lib.index l [46]+1).toNat=(Lib.index l [46]).toNat+1:=by omega
       rw[e,hc,h2,e2]
       exact⟨by omega,by simp⟩
     · right
       have e:Lib.index (b :: l) [46]= -1:=by rw[Lib.index,hne,h1]; simp
       rw[e,hc,h2]
       exact⟨rfl,rfl⟩
theorem cut_dot (s:List UInt8):Lib.cut s [46]=Dq s:=by
 unfold Lib.cut
 rcases Ag7 s with⟨h1,h2⟩ | ⟨h1,h2⟩
 · rw[if_pos h1,h2]; rfl
 · rw[if_neg (by omega),h2]
theorem A07 (s:List UInt8):(Dq s).1.length≤s.length∧(Dq s).2.1.length≤s.length:=by
 induction s with
 | nil=>simp[Dq]
 | cons b l ih=>
   simp only[Dq]
   split
   · simp
   · simp;omega
theorem Arf (s:List UInt8):Ab Tryz.prog Alw [.str s,.str [46]] [] (.tup [.str (Dq s).1,.str (Dq s).2.1,.bool (Dq s).2.2]) []:=by
 refine Ab.below (by kernel_rfl) fun F g w vs hG hlive hr=>?_
 obtain⟨v,u,rfl,hv,hu⟩:=RL_two hr
 simp only[R] at hv hu
 obtain⟨rfl,hs⟩:=hv
 obtain⟨rfl,_⟩:=hu
 obtain⟨_,m,hm⟩:=hG.mxl
 rw[show gMxl=Tryz.lays145_ren.g 1 from by kernel_rfl] at hm
 refine (Any.strings_Cut Tryz.lays145 ⟨s.toArray⟩ ⟨#[46]⟩ m w (by simp[ByteArray.size,A4] at hs ⊢; omega) hm).mono ?_
 rintro e w' ⟨rfl,n,rfl⟩
 refine⟨_,rfl,⟨rfl,rfl⟩,Nat.le_refl _,fun k hk=>rfl,fun F' hF hF'=>?_⟩
 have hl:=A07 s
 have e1:Lib.cut s [46]=Dq s:=cut_dot s
 simp only[e1]
 unfold R
 refine⟨_,rfl,?_⟩
 simp only[RL]
 exact⟨_,_,rfl,Zl (by omega),_,_,rfl,Zl (by omega),_,_,rfl,by unfold R;rfl,rfl⟩
def Dk (acc:Nat) (l:List UInt8):Nat:=l.foldl (fun a c=>10 * a+(c.toNat - 48)) acc
theorem dval_nil (acc:Nat):Dk acc []=acc:=rfl
theorem Ao4 (acc:Nat) (c:UInt8) (l:List UInt8):Dk acc (c :: l)=Dk (10 * acc+(c.toNat - 48)) l:=by simp only[Dk,List.foldl_cons]
def Ft (c:UInt8):Bool:=cls c.toNat == 3
theorem Aef (c:UInt8):Ft c=true↔48≤c.toNat∧c.toNat≤57:=by
 generalize hn:c.toNat=n
 simp only[Ft,cls,hn,beq_iff_eq]
 split
 · constructor<;>intro h<;>omega
 · split
   · constructor<;>intro h<;>omega
   · split
     · constructor<;>intro h<;>omega
     · split
       · constructor<;>intro h<;>omega
       · split<;>constructor<;>intro h<;>omega
theorem dval_le (l:List UInt8) (acc:Nat):acc≤Dk acc l:=by
 induction l generalizing acc with
 | nil=>exact Nat.le_refl _
 | cons c l ih=>rw[Ao4]; exact Nat.le_trans (by omega) (ih _)
theorem Ani: ∀(l:List UInt8) (acc:Nat),acc < 18446744073709551616→l.all Ft=true→Lib.parseUint10 acc l=if Dk acc l < 18446744073709551616 then .ok (Dk acc l) else .range
 | [],acc,ha,_=>by simp[Lib.parseUint10,dval_nil,ha]
 | c :: l,acc,ha,h=>by
   simp only[List.all_cons,Bool.and_eq_true] at h
   have hc:=(Aef c).1 h.1
   have hle:=dval_le l (10 * acc+(c.toNat - 48))
   rw[Lib.parseUint10,if_pos hc,Ao4]
   split
   · rw[if_neg (by omega)]
   · split
     · rw[if_neg (by omega)]
     · rw[show acc * 10=10 * acc from by omega]
       exact Ani l _ (by omega) h.2
def Je (s:List UInt8):Int × Int:=
 if s=[]∨(1 < s.length∧s.headD 0=48) then (0,3) else if s.all Ft=true then (if 4503599627370496 < Dk 0 s then (0,6) else (Dk 0 s,0)) else (0,3)
def Gy (p:Int × Int):AV:=.tup [.int .i64 p.1,.int .i64 p.2]
theorem Ax8 (p:Int × Int) (n:Nat):(Gy p).inScope n=true:=by simp[Gy]
def Ii (s:List UInt8):AV:=if Dk 0 s < 9223372036854775808 then .tup [.int .i64 (Dk 0 s),.nili] else .tup [.int .i64 9223372036854775807,.iface 279 (.eptr [])]
theorem Aoy (s:List UInt8) (n:Nat):(Ii s).inScope n=true:=by unfold Ii;split<;>simp
theorem Ak8 (s:List UInt8) (hne:s≠[]) (hd:s.all Ft=true):Ab Tryz.prog Ahl [.str s] [] (Ii s) []:=by
 have hall:Lib.atoiAll s=if Dk 0 s < 9223372036854775808 then .ok (Dk 0 s) else .range:=by
  cases s with
  | nil=>exact absurd rfl hne
  | cons c r=>
    have hc:=(Aef c).1 (by simp only[List.all_cons,Bool.and_eq_true] at hd;exact hd.1)
    have h1: ¬(c.toNat=43∨c.toNat=45):=by omega
    have h2: ¬c.toNat=45:=by omega
    simp only[Lib.atoiAll,if_neg h1]
    simp only[h2,not_false_eq_true,true_and,false_and,if_false]
    rw[Lib.parseMag,if_neg hne,Ani _ 0 (by omega) hd]
    by_cases hx:Dk 0 (c :: r) < 18446744073709551616
    · rw[if_pos hx]
      simp only
      by_cases hy:Dk 0 (c :: r) < 9223372036854775808
      · rw[if_pos hy,if_neg (by omega)]
      · rw[if_neg hy,if_pos (by omega)]
    · rw[if_neg hx]
      simp only
      rw[if_neg (by omega)]
 have hsat:Lib.atoiSat s=9223372036854775807:=by
  cases s with
  | nil=>rfl
  | cons c r=>
    have hc:=(Aef c).1 (by simp only[List.all_cons,Bool.and_eq_true] at hd;exact hd.1)
    unfold Lib.atoiSat
    rw[if_neg (by simp;omega)]
 refine Ab.below (by kernel_rfl) fun F g w vs hG hlive hr=>?_
 simp only[RL] at hr
 obtain⟨v,r,rfl,hv,rfl⟩:=hr
 simp only[R] at hv
 obtain⟨rfl,hs⟩:=hv
 have hsz:(⟨s.toArray⟩:ByteArray).size=s.length:=by simp[ByteArray.size]
 by_cases hlt:Dk 0 s < 9223372036854775808
 · rw[if_pos hlt] at hall
   refine (Any.strconv_Atoi_ok Tryz.laysC172 ⟨s.toArray⟩ (by rw[hsz]; simp[A4] at hs;omega) (Dk 0 s) hall w).mono ?_
   rintro e w' ⟨rfl,hw⟩
   have hb:Below w.heap.size w w':=by
    rcases hw with rfl | ⟨t,rfl⟩
    · exact Below.refl _ _
    · exact Lib.bytesWorld_below _ _ _
   refine⟨_,rfl,⟨hb.os,hb.output⟩,hb.size,hb.block,fun F' hF hF'=>?_⟩
   unfold Ii
   rw[if_pos hlt]
   unfold R
   refine⟨_,rfl,?_⟩
   simp only[RL]
   refine⟨_,_,rfl,?_,_,_,rfl,?_,rfl⟩
   · unfold R;exact⟨rfl,by simp[IntKind.has,IntKind.min,IntKind.max,IntKind.signed,IntKind.bits]; omega⟩
   · unfold R;rfl
 · rw[if_neg hlt] at hall
   obtain⟨_,te,pe,hc⟩:=hG.rng
   rw[show Of=Tryz.laysC172_ren.g 16 from by kernel_rfl] at hc
   refine (Any.strconv_Atoi_range Tryz.laysC172 ⟨s.toArray⟩ (by rw[hsz]; simp[A4] at hs;omega) hall _ w hc (.inr ⟨te,pe,rfl⟩)).mono ?_
   rintro e w' ⟨N,rfl,h1,h2,hb⟩
   refine⟨_,rfl,⟨hb.os,hb.output⟩,hb.size,hb.block,fun F' hF hF'=>?_⟩
   unfold Ii
   rw[if_neg hlt]
   unfold R
   refine⟨_,rfl,?_⟩
   simp only[RL]
   refine⟨_,_,rfl,?_,_,_,rfl,?_,rfl⟩
   · simp only[hsat]; unfold R;exact⟨rfl,by simp[IntKind.has,IntKind.min,IntKind.max,IntKind.signed,IntKind.bits]⟩
   · unfold R;exact⟨_,rfl,by unfold R;exact⟨N,0,rfl,trivial⟩⟩
end Go.Proofs.YtemdkfnenjpioaaGreatDoor
namespace Go.Proofs.YtemdkfnenjpioaaGreatDoor
open Go
attribute [local simp] Ar aev Ax A7 start AV.cells AV.undef Bc Be Bh Bl Bj AV.isCell Bf A1 Bi
attribute [local simp] fin A9 A8 Bb AV.strip Ay A5 AV.inScope Am A0 As
attribute [local simp] Gg
theorem Ajr (s:List UInt8):Ab Tryz.prog T7 [.str s] [] (.bool (Xv s)) []:=by
 refine Ab.go mixed Agr (by simp) fun hfit Q hQ=>?_
 clear hfit
 simp -implicitDefEqProofs[Ael]
 refine Ah (Apu s 1) (by simp) (by simp) (by simp[Ag,Aa,Ac,Al,Af,Kd.l]) ?_
 cases h:E8 s 1
 · simp -implicitDefEqProofs
   refine hQ _ _ _ ?_
   simp -implicitDefEqProofs[Xv,h]
 · simp -implicitDefEqProofs
   refine Ah (Aq9 s) (by simp) (by simp) (by simp[Ag,Aa,Ac,Al,Af,Kd.l]) ?_
   simp -implicitDefEqProofs
   refine hQ _ _ _ ?_
   simp -implicitDefEqProofs[Xv,h]
def pre (k:Int):List UInt8:=if k=1 then [118,97,108,46] else if k=2 then [116,121,112,101,46] else if k=3 then [99,111,110,46] else if k=4 then [109,111,100,46] else if k=5 then [115,105,103,46] else []
def P8 (k:Int) (s:List UInt8):Bool:=if k=1∨k=2 then Xv s else E8 s 2
def Xm (s:List UInt8):List Int→Option (Int × List UInt8)
 | []=>none
 | k :: ks=>if Mb s (pre k) && P8 k (s.drop (pre k).length) then some (k,s.drop (pre k).length) else Xm s ks
def Mm (s:List UInt8):Option (Int × List UInt8):=Xm s [1,2,3,4,5]
theorem Azi (k:Int):Ab Tryz.prog Rn [.int .i64 k] [] (.str (pre k)) []:=by
 refine Ab.go mixed Agw (by simp) fun hfit Q hQ=>?_
 clear hfit
 simp -implicitDefEqProofs[Aad,Ca]
 repeat' (first | (refine Cl (fun hb=>?_) (fun hb=>?_)<;>simp only[decide_eq_true_eq,decide_eq_false_iff_not] at hb<;>simp -implicitDefEqProofs[hb,Ca]))
 all_goals (refine hQ _ _ _ ?_;simp -implicitDefEqProofs[*,pre])
theorem Azs (k:Int) (s:List UInt8):Ab Tryz.prog R7 [.int .i64 k,.str s] [] (.bool (P8 k s)) []:=by
 refine Ab.go mixed Ahb (by simp) fun hfit Q hQ=>?_
 clear hfit
 by_cases h1:k=1
 · subst h1
   simp -implicitDefEqProofs[S9]
   refine Ah (Ajr s) (by simp) (by simp) (by simp[Ag,Aa,Ac,Al,Af,Kd.l]) ?_
   simp -implicitDefEqProofs
   refine hQ _ _ _ ?_
   simp -implicitDefEqProofs[P8]
 by_cases h2:k=2
 · subst h2
   simp -implicitDefEqProofs[S9]
   refine Ah (Ajr s) (by simp) (by simp) (by simp[Ag,Aa,Ac,Al,Af,Kd.l]) ?_
   simp -implicitDefEqProofs
   refine hQ _ _ _ ?_
   simp -implicitDefEqProofs[P8]
 · simp -implicitDefEqProofs[S9,Ca,h1,h2]
   refine Ah (Ads s) (by simp) (by simp) (by simp[Ag,Aa,Ac,Al,Af,Kd.l]) ?_
   simp -implicitDefEqProofs
   refine hQ _ _ _ ?_
   simp -implicitDefEqProofs[P8,h1,h2]
def Mw (o:Option (Int × List UInt8)):AV:=match o with | some (k,s)=>.tup [.int .i64 k,.str s,.int .i64 0] | none=>.tup [.int .i64 0,.str [],.int .i64 3]
theorem Awn (o:Option (Int × List UInt8)) (n:Nat):(Mw o).inScope n=true:=by unfold Mw;split<;>simp
theorem drop_ks {k:Nat} (h1:1≤k) (h2:k≤5):([1,2,3,4,5]:List Int).drop (k - 1)=(k:Int) :: ([1,2,3,4,5]:List Int).drop k:=by
 obtain rfl | rfl | rfl | rfl | rfl:k=1∨k=2∨k=3∨k=4∨k=5:=by omega
 all_goals rfl
theorem A1y (s:List UInt8):Ab Tryz.prog Tl [.str s] [] (Mw (Mm s)) []:=by
 refine Ab.go mixed Akh (by simp) fun hfit Q hQ=>?_
 clear hfit
 simp -implicitDefEqProofs[Acq]
 refine B5 (AWp.loopI [] (fun n f h G=>∃k:Nat,1≤k∧k+n=6∧f 5= .int .i64 k∧Xm s (([1,2,3,4,5]:List Int).drop (k - 1))=Mm s) (5) (by simp) ⟨1,by simp,by simp,rfl,by simp[Mm]⟩ ?_)
 rintro n f h G ⟨k,hk1,hk,h5,hs⟩
 refine AWp.run mixed fun Q2 hQ2=>?_
 simp -implicitDefEqProofs[AC.dsts,Au,At,Bo,h5]
 by_cases hlt:k≤5
 · have hlt':(k:Int)≤5:=by omega
   rw[drop_ks hk1 hlt,Xm] at hs
   simp -implicitDefEqProofs[hlt,hlt']
   refine Ah (Azi k) (by simp) (by simp) (by simp[Ag,Aa,Ac,Al,Af,Kd.l]) ?_
   simp -implicitDefEqProofs
   refine Ah (A0s s (pre k)) (by simp) (Aqt s _ 0) (by simp) ?_
   cases hp:Mb s (pre k)
   · rw[hp] at hs
     simp -implicitDefEqProofs[Hw,hp,Ba (n:=(k:Int)+1) (by omega) (by omega)]
     refine hQ2 _ _ _ (Cb (n - 1) (h) rfl (by omega) (by simp -implicitDefEqProofs[AC.dsts,Au,At,Aq]) ?_)
     exact⟨k+1,by omega,by omega,by simp[Aq],by simpa using hs⟩
   · rw[hp] at hs
     simp -implicitDefEqProofs[Hw,hp]
     refine Ah (Azs k (s.drop (pre k).length)) (by simp) (by simp) (by simp[Ag,Aa,Ac,Al,Af,Kd.l]) ?_
     cases hf:P8 k (s.drop (pre k).length)
     · rw[hf] at hs
       simp -implicitDefEqProofs[Ba (n:=(k:Int)+1) (by omega) (by omega)]
       refine hQ2 _ _ _ (Cb (n - 1) (h) rfl (by omega) (by simp -implicitDefEqProofs[AC.dsts,Au,At,Aq]) ?_)
       exact⟨k+1,by omega,by omega,by simp[Aq],by simpa using hs⟩
     · rw[hf] at hs
       have e:Mm s=some ((k:Int),s.drop (pre k).length):=by rw[← hs]; simp
       simp -implicitDefEqProofs
       refine hQ2 _ _ _ (Dg ?_)
       show KR _ _ Q _ _
       simp -implicitDefEqProofs
       refine hQ _ _ _ ?_
       simp -implicitDefEqProofs[e,Mw]
 · have hlt': ¬(k:Int)≤5:=by omega
   have e:Mm s=none:=by rw[← hs,List.drop_eq_nil_of_le (by simp;omega)]; rfl
   simp -implicitDefEqProofs[hlt']
   refine hQ2 _ _ _ (Ce ?_)
   show KE _ 0 _ Q _ _
   simp -implicitDefEqProofs
   refine hQ _ _ _ ?_
   simp -implicitDefEqProofs[e,Mw]
theorem Avg (s:List UInt8):Ab Tryz.prog Zx [.str s] [] (Gy (Je s)) []:=by
 refine Ab.go mixed Azg (by simp) fun hfit Q hQ=>?_
 have hln:s.length≤1073741824:=by simpa[Bn,AV.fits,A4] using hfit
 clear hfit
 simp -implicitDefEqProofs[Ajy]
 by_cases h1:s=[]
 · have e:Je s=(0,3):=by simp[Je,h1]
   simp -implicitDefEqProofs[h1]
   refine hQ _ _ _ ?_
   simp -implicitDefEqProofs[e,Gy]
 have hpos:0 < s.length:=List.length_pos_iff.2 h1
 have hhd:=Aoz hpos
 have hne:(s == ([]:List UInt8))=false:=by simpa using h1
 have hne2:s.isEmpty=false:=by simpa using h1
 by_cases h2:1 < s.length∧s.headD 0=48
 · have e:Je s=(0,3):=by simp only[Je,h2,and_self,or_true,if_true]
   have h2':(1:Int) < s.length:=by omega
   have h3:s[0]=48:=by rw[← hhd]; exact h2.2
   simp -implicitDefEqProofs[hne,hne2,h2',hpos,h3]
   refine hQ _ _ _ ?_
   simp -implicitDefEqProofs[e,Gy]
 have key:Je s=if s.all Ft=true then (if 4503599627370496 < Dk 0 s then (0,6) else ((Dk 0 s:Int),0)) else (0,3):=by
  rw[Je,if_neg (by rintro (h | h); exact h1 h;exact h2 h)]
 have hgo: ∀b:Bool,((1:Int) < s.length)→b=((s[0].toNat:Int) == 48)→b=false:=by
  intro b hb e
  subst e
  have: ¬s[0]=48:=fun h=>h2 ⟨by omega,by rw[hhd]; exact h⟩
  simp only[beq_eq_false_iff_ne,ne_eq]
  intro h
  apply this
  apply UInt8.toNat_inj.1
  show s[0].toNat=48
  omega
 simp -implicitDefEqProofs[hne,hne2]
 by_cases h4:(1:Int) < s.length
 · have h5:=hgo _ h4 rfl
   simp -implicitDefEqProofs[h4,hpos,h5]
   refine B5 (AWp.loopI [] (fun n f h G=>∃k:Nat,k+n=s.length∧f 23= .int .i64 k∧((s.drop k).all Ft)=s.all Ft) (s.length) (by simp) ⟨0,by simp,rfl,by simp⟩ ?_)
   rintro n f h G ⟨k,hk,h23,hs⟩
   refine AWp.run mixed fun Q2 hQ2=>?_
   simp -implicitDefEqProofs[AC.dsts,Au,At,Bo,h23]
   by_cases hlt:k < s.length
   · have hd:=List.drop_eq_getElem_cons hlt
     simp -implicitDefEqProofs[hlt]
     refine Ah (T1 s[k].toNat) (by simp) (by simp) (by simp[Ag,Aa,Ac,Al,Af,Kd.l]) ?_
     cases hc:cls s[k].toNat == 3
     · have e:Je s=(0,3):=by rw[key,if_neg (by rw[← hs,hd,List.all_cons,Ft,hc]; simp)]
       simp -implicitDefEqProofs[bne,hc]
       refine hQ2 _ _ _ (Dg ?_)
       show KR _ _ Q _ _
       simp -implicitDefEqProofs
       refine hQ _ _ _ ?_
       simp -implicitDefEqProofs[e,Gy]
     · simp -implicitDefEqProofs[bne,hc,Ba (n:=(k:Int)+1) (by omega) (by omega)]
       refine hQ2 _ _ _ (Cb (n - 1) (h) rfl (by omega) (by simp -implicitDefEqProofs[AC.dsts,Au,At,Aq]) ?_)
       refine⟨k+1,by omega,by simp[Aq],?_⟩
       rw[← hs,hd,List.all_cons,Ft,hc]; simp
   · have hall:s.all Ft=true:=by rw[← hs,List.drop_eq_nil_of_le (by omega)]; rfl
     rw[if_pos hall] at key
     simp -implicitDefEqProofs[hlt]
     refine hQ2 _ _ _ (Ce ?_)
     show KE _ 0 _ Q _ _
     simp -implicitDefEqProofs
     refine Ah (Ak8 s h1 hall) (by simp) (Aoy s 0) (by simp) ?_
     by_cases h6:Dk 0 s < 9223372036854775808
     · by_cases h7:4503599627370496 < Dk 0 s
       · have h7':(4503599627370496:Int) < Dk 0 s:=by omega
         rw[if_pos h7] at key
         simp -implicitDefEqProofs[Ii,h6,Ff,h7',h7]
         refine hQ _ _ _ ?_
         simp -implicitDefEqProofs[key,Gy]
       · have h7': ¬(4503599627370496:Int) < Dk 0 s:=by omega
         rw[if_neg h7] at key
         simp -implicitDefEqProofs[Ii,h6,Ff,h7',h7]
         refine hQ _ _ _ ?_
         simp -implicitDefEqProofs[key,Gy]
     · rw[if_pos (by omega)] at key
       simp -implicitDefEqProofs[Ii,h6,Ff]
       refine hQ _ _ _ ?_
       simp -implicitDefEqProofs[key,Gy]
 · simp -implicitDefEqProofs[h4]
   refine B5 (AWp.loopI [] (fun n f h G=>∃k:Nat,k+n=s.length∧f 23= .int .i64 k∧((s.drop k).all Ft)=s.all Ft) (s.length) (by simp) ⟨0,by simp,rfl,by simp⟩ ?_)
   rintro n f h G ⟨k,hk,h23,hs⟩
   refine AWp.run mixed fun Q2 hQ2=>?_
   simp -implicitDefEqProofs[AC.dsts,Au,At,Bo,h23]
   by_cases hlt:k < s.length
   · have hd:=List.drop_eq_getElem_cons hlt
     simp -implicitDefEqProofs[hlt]
     refine Ah (T1 s[k].toNat) (by simp) (by simp) (by simp[Ag,Aa,Ac,Al,Af,Kd.l]) ?_
     cases hc:cls s[k].toNat == 3
     · have e:Je s=(0,3):=by rw[key,if_neg (by rw[← hs,hd,List.all_cons,Ft,hc]; simp)]
       simp -implicitDefEqProofs[bne,hc]
       refine hQ2 _ _ _ (Dg ?_)
       show KR _ _ Q _ _
       simp -implicitDefEqProofs
       refine hQ _ _ _ ?_
       simp -implicitDefEqProofs[e,Gy]
     · simp -implicitDefEqProofs[bne,hc,Ba (n:=(k:Int)+1) (by omega) (by omega)]
       refine hQ2 _ _ _ (Cb (n - 1) (h) rfl (by omega) (by simp -implicitDefEqProofs[AC.dsts,Au,At,Aq]) ?_)
       refine⟨k+1,by omega,by simp[Aq],?_⟩
       rw[← hs,hd,List.all_cons,Ft,hc]; simp
   · have hall:s.all Ft=true:=by rw[← hs,List.drop_eq_nil_of_le (by omega)]; rfl
     rw[if_pos hall] at key
     simp -implicitDefEqProofs[hlt]
     refine hQ2 _ _ _ (Ce ?_)
     show KE _ 0 _ Q _ _
     simp -implicitDefEqProofs
     refine Ah (Ak8 s h1 hall) (by simp) (Aoy s 0) (by simp) ?_
     by_cases h6:Dk 0 s < 9223372036854775808
     · by_cases h7:4503599627370496 < Dk 0 s
       · have h7':(4503599627370496:Int) < Dk 0 s:=by omega
         rw[if_pos h7] at key
         simp -implicitDefEqProofs[Ii,h6,Ff,h7',h7]
         refine hQ _ _ _ ?_
         simp -implicitDefEqProofs[key,Gy]
       · have h7': ¬(4503599627370496:Int) < Dk 0 s:=by omega
         rw[if_neg h7] at key
         simp -implicitDefEqProofs[Ii,h6,Ff,h7',h7]
         refine hQ _ _ _ ?_
         simp -implicitDefEqProofs[key,Gy]
     · rw[if_pos (by omega)] at key
       simp -implicitDefEqProofs[Ii,h6,Ff]
       refine hQ _ _ _ ?_
       simp -implicitDefEqProofs[key,Gy]
theorem Afj {α :Type} (s:List α) (k:Nat) (h:k < s.length):s.take (k+1)=s.take k++[s[k]]:=by
 rw[List.take_add_one,List.getElem?_eq_getElem h]; rfl
def O6 (s:List UInt8):Bool:=decide (s.length≤48) && ((Dq s).2.2 && (E8 (Dq s).1 2 && ((Je (Dq s).2.1).2 == 0)))
theorem Azy (s:List UInt8):Ab Tryz.prog Ae5 [.str s] [] (.bool (O6 s)) []:=by
 refine Ab.go mixed Azu (by simp) fun hfit Q hQ=>?_
 clear hfit
 simp -implicitDefEqProofs[Akt]
 refine Ah (Arf s) (by simp) (by simp) (by simp[Ag,Aa,Ac,Al,Af,Kd.l]) ?_
 simp -implicitDefEqProofs
 refine Ah (Avg (Dq s).2.1) (by simp) (Ax8 _ 0) (by simp) ?_
 simp -implicitDefEqProofs[Gy]
 cases h1:(Dq s).2.2
 · simp -implicitDefEqProofs
   refine hQ _ _ _ ?_
   simp -implicitDefEqProofs[O6,h1]
 · by_cases h2:s.length≤48
   · have h2':(s.length:Int)≤48:=by omega
     simp -implicitDefEqProofs[h2,h2']
     refine Ah (Ads (Dq s).1) (by simp) (by simp) (by simp[Ag,Aa,Ac,Al,Af,Kd.l]) ?_
     cases h3:E8 (Dq s).1 2
     · simp -implicitDefEqProofs
       refine hQ _ _ _ ?_
       simp -implicitDefEqProofs[O6,h1,h2,h3]
     · simp -implicitDefEqProofs
       refine hQ _ _ _ ?_
       simp -implicitDefEqProofs[O6,h1,h2,h3]
   · have h2': ¬(s.length:Int)≤48:=by omega
     simp -implicitDefEqProofs[h2,h2']
     refine hQ _ _ _ ?_
     simp -implicitDefEqProofs[O6,h1,h2]
def labelsS (l:List (List UInt8)):Bool:=l.all Ez && (decide (l.length≤1000) && asc l)
end Go.Proofs.YtemdkfnenjpioaaGreatDoor
namespace Go.Proofs.YtemdkfnenjpioaaGreatDoor
open Go
attribute [local simp] Ar aev Ax A7 start AV.cells AV.undef Bc Be Bh Bl Bj AV.isCell Bf A1 Bi
attribute [local simp] fin A9 A8 Bb AV.strip Ay A5 AV.inScope Am A0 As
attribute [local simp] Ca Cg
def n1 (c:Cn):Bool:=decide ((c.l.length:Int)=Sy c)
def n2 (c:Cn):Bool:=if c.op=1∨c.op=3 then !(decide (c.n < 0) || decide (20000 < c.n)) else decide (c.n=0)
def n3 (c:Cn):Bool:=if c.op=2 then O6 c.s else decide (c.s=[])
def n4 (c:Cn):Bool:=if opB c.op=true∨c.op=2 then Ee c.k else decide (¬ 0 < c.k.l.length)
def n5 (c:Cn):Bool:=!(decide (0 < c.names.length) && !opL c.op) && (!decide (1000 < (c.names.length:Int)) && (asc c.names && c.names.all Ez))
def Jo (c:Cn):Bool:=n1 c && (n2 c && (n3 c && (n4 c && n5 c)))
mutual
def C4:Cn→Bool
 | .mk o n s k ns l=>Jo (.mk o n s k ns l) && Vj l
def Vj:List Cn→Bool
 | []=>true
 | c :: cs=>C4 c && Vj cs
end
theorem Ay9 (l:List Cn):Vj l=l.all C4:=by
 induction l with
 | nil=>rfl
 | cons c l ih=>simp[Vj,ih]
theorem W6 (c:Cn):C4 c=(Jo c && c.l.all C4):=by cases c;simp[C4,Ay9,Cn.l]
theorem Hg {α :Type} (p: α→Bool) (l:List α):(l.any fun x=>!p x)= !l.all p:=by
 induction l with
 | nil=>rfl
 | cons x l ih=>simp[List.any_cons,List.all_cons,ih]
theorem Ayu (c:Cn) (h:Ab Tryz.prog Mj [Aa c] [] (.bool (C4 c)) []):Ab Tryz.prog T9 [Aa c] [] (.bool !C4 c) []:=by
 refine Ab.go mixed Avy (by simp) fun hfit Q hQ=>?_
 clear hfit
 simp -implicitDefEqProofs[-Int.not_lt, -Int.not_le,Aj6,Aa]
 refine Ah (h) (by simp) (by simp) (by simp[Ag,Aa,Ac,Al,Af,Kd.l]) ?_
 simp -implicitDefEqProofs[-Int.not_lt, -Int.not_le]
 refine hQ _ _ _ ?_
 simp -implicitDefEqProofs[-Int.not_lt, -Int.not_le]
set_option maxHeartbeats 2000000 in
theorem Ayi (c:Cn) (hrec: ∀x ∈ c.l,Ab Tryz.prog Mj [Aa x] [] (.bool (C4 x)) []):Ab Tryz.prog Mj [Aa c] [] (.bool (C4 c)) []:=by
 have key:=W6 c
 have hc:=Ir c.l (fun x=>!C4 x) T9 fun x hx=>Ayu x (hrec x hx)
 have hs:=Tq c.names (fun s=>!Ez s) W4 fun s _=>Ay3 s
 rw[Hg] at hc hs
 refine Ab.go mixed Azc (by simp) fun hfit Q hQ=>?_
 clear hfit hrec
 have f1:n1 c=false→C4 c=false:=fun h=>by rw[key,Jo,h]; rfl
 have f2:n2 c=false→C4 c=false:=fun h=>by rw[key,Jo,h]; simp
 have f3:n3 c=false→C4 c=false:=fun h=>by rw[key,Jo,h]; simp
 have f4:n4 c=false→C4 c=false:=fun h=>by rw[key,Jo,h]; simp
 have f5:n5 c=false→C4 c=false:=fun h=>by rw[key,Jo,h]; simp
 have fin5:n1 c=true→n2 c=true→n3 c=true→n4 c=true→n5 c=true→C4 c=c.l.all C4:=fun h1 h2 h3 h4 h5=>by rw[key,Jo,h1,h2,h3,h4,h5]; simp
 clear key
 simp -implicitDefEqProofs[-Int.not_lt, -Int.not_le, -A3,Am8,Aa,Ac c]
 rw[A3]
 simp -implicitDefEqProofs[-Int.not_lt, -Int.not_le, -A3]
 refine E2 (fun f=>n1 c=true) (fun Q' hn hr=>?_) (fun f hI=>?_)
 · clear hc hs f2 f3 f4 f5 fin5
   simp -implicitDefEqProofs[-Int.not_lt, -Int.not_le]
   refine C3 (by rfl) ?_
   simp -implicitDefEqProofs[-Int.not_lt, -Int.not_le]
   refine Bp (Aui c) (by simp) (by simp) (by simp[Ag,Aa,Ac,Al,Af,Kd.l]) ?_
   simp -implicitDefEqProofs[-Int.not_lt, -Int.not_le]
   repeat' (first | (refine Cl (fun hb=>?_) (fun hb=>?_)<;>(try simp only[Bool.not_eq_true',Bool.not_eq_true,Bool.not_eq_false,Bool.not_eq_false',Bool.not_true,Bool.not_false,Bool.not_not] at hb)<;>simp -implicitDefEqProofs[-Int.not_lt, -Int.not_le,hb]) | (refine Dp (fun hb=>?_) (fun hb=>?_)<;>(try simp only[Bool.not_eq_true',Bool.not_eq_true,Bool.not_eq_false,Bool.not_eq_false',Bool.not_true,Bool.not_false,Bool.not_not] at hb)<;>simp -implicitDefEqProofs[-Int.not_lt, -Int.not_le,hb]))
   all_goals first
    | (refine hr _ _ ?_;have e:=f1 (by clear hn hr hQ;(try simp only[decide_eq_true_eq,decide_eq_false_iff_not] at *); first | (simp[-Int.not_lt, -Int.not_le, *,n1]; done) | (exfalso;omega) | (exfalso;simp_all;done)); simp -implicitDefEqProofs;refine hQ _ _ _ ?_;simp -implicitDefEqProofs[e]; done)
    | (refine hn _ (by simp -implicitDefEqProofs[AC.dsts,Au,At,Aq]) ?_;clear hn hr hQ;(try simp only[decide_eq_true_eq,decide_eq_false_iff_not] at *); first | (simp[-Int.not_lt, -Int.not_le, *,n1]; done) | (exfalso;omega) | (exfalso;simp_all;done))
 simp -implicitDefEqProofs[-Int.not_lt, -Int.not_le, -A3,AC.dsts,Au,At]
 refine E2 (fun f=>n2 c=true) (fun Q' hn hr=>?_) (fun f hI=>?_)
 · clear hc hs f1 f3 f4 f5 fin5
   simp -implicitDefEqProofs[-Int.not_lt, -Int.not_le]
   repeat' (first | (refine Cl (fun hb=>?_) (fun hb=>?_)<;>(try simp only[Bool.not_eq_true',Bool.not_eq_true,Bool.not_eq_false,Bool.not_eq_false',Bool.not_true,Bool.not_false,Bool.not_not] at hb)<;>simp -implicitDefEqProofs[-Int.not_lt, -Int.not_le,hb]) | (refine Dp (fun hb=>?_) (fun hb=>?_)<;>(try simp only[Bool.not_eq_true',Bool.not_eq_true,Bool.not_eq_false,Bool.not_eq_false',Bool.not_true,Bool.not_false,Bool.not_not] at hb)<;>simp -implicitDefEqProofs[-Int.not_lt, -Int.not_le,hb]))
   all_goals first
    | (refine hr _ _ ?_;have e:=f2 (by clear hn hr hQ;(try simp only[decide_eq_true_eq,decide_eq_false_iff_not] at *); first | (simp[-Int.not_lt, -Int.not_le, *,n2]; done) | (exfalso;omega) | (exfalso;simp_all;done)); simp -implicitDefEqProofs;refine hQ _ _ _ ?_;simp -implicitDefEqProofs[e]; done)
    | (refine hn _ (by simp -implicitDefEqProofs[AC.dsts,Au,At,Aq]) ?_;clear hn hr hQ;(try simp only[decide_eq_true_eq,decide_eq_false_iff_not] at *); first | (simp[-Int.not_lt, -Int.not_le, *,n2]; done) | (exfalso;omega) | (exfalso;simp_all;done))
 simp -implicitDefEqProofs[-Int.not_lt, -Int.not_le, -A3,AC.dsts,Au,At]
 refine E2 (fun f=>n3 c=true) (fun Q' hn hr=>?_) (fun f hI=>?_)
 · clear hc hs f1 f2 f4 f5 fin5
   simp -implicitDefEqProofs[-Int.not_lt, -Int.not_le]
   repeat' (first | (refine Cl (fun hb=>?_) (fun hb=>?_)<;>(try simp only[Bool.not_eq_true',Bool.not_eq_true,Bool.not_eq_false,Bool.not_eq_false',Bool.not_true,Bool.not_false,Bool.not_not] at hb)<;>simp -implicitDefEqProofs[-Int.not_lt, -Int.not_le,hb]) | (refine Dp (fun hb=>?_) (fun hb=>?_)<;>(try simp only[Bool.not_eq_true',Bool.not_eq_true,Bool.not_eq_false,Bool.not_eq_false',Bool.not_true,Bool.not_false,Bool.not_not] at hb)<;>simp -implicitDefEqProofs[-Int.not_lt, -Int.not_le,hb]) | (refine Ah (Azy c.s) (by simp) (by simp) (by simp[Ag,Aa,Ac,Al,Af,Kd.l]) ?_;simp -implicitDefEqProofs[-Int.not_lt, -Int.not_le]))
   all_goals first
    | (refine hr _ _ ?_;have e:=f3 (by clear hn hr hQ;(try simp only[decide_eq_true_eq,decide_eq_false_iff_not] at *); first | (simp[-Int.not_lt, -Int.not_le, *,n3]; done) | (exfalso;omega) | (exfalso;simp_all;done)); simp -implicitDefEqProofs;refine hQ _ _ _ ?_;simp -implicitDefEqProofs[e]; done)
    | (refine hn _ (by simp -implicitDefEqProofs[AC.dsts,Au,At,Aq]) ?_;clear hn hr hQ;(try simp only[decide_eq_true_eq,decide_eq_false_iff_not] at *); first | (simp[-Int.not_lt, -Int.not_le, *,n3]; done) | (exfalso;omega) | (exfalso;simp_all;done))
 simp -implicitDefEqProofs[-Int.not_lt, -Int.not_le, -A3,AC.dsts,Au,At]
 refine E2 (fun f=>n4 c=true) (fun Q' hn hr=>?_) (fun f hI=>?_)
 · clear hc hs f1 f2 f3 f5 fin5
   simp -implicitDefEqProofs[-Int.not_lt, -Int.not_le]
   repeat' (first | (refine Cl (fun hb=>?_) (fun hb=>?_)<;>(try simp only[Bool.not_eq_true',Bool.not_eq_true,Bool.not_eq_false,Bool.not_eq_false',Bool.not_true,Bool.not_false,Bool.not_not] at hb)<;>simp -implicitDefEqProofs[-Int.not_lt, -Int.not_le,hb]) | (refine Dp (fun hb=>?_) (fun hb=>?_)<;>(try simp only[Bool.not_eq_true',Bool.not_eq_true,Bool.not_eq_false,Bool.not_eq_false',Bool.not_true,Bool.not_false,Bool.not_not] at hb)<;>simp -implicitDefEqProofs[-Int.not_lt, -Int.not_le,hb]) | (refine Ah (R4 c) (by simp) (by simp) (by simp[Ag,Aa,Ac,Al,Af,Kd.l]) ?_;simp -implicitDefEqProofs[-Int.not_lt, -Int.not_le]) | (refine Ah (Nm c.k) (by simp) (by simp) (by simp[Ag,Aa,Ac,Al,Af,Kd.l]) ?_;simp -implicitDefEqProofs[-Int.not_lt, -Int.not_le]))
   all_goals first
    | (refine hr _ _ ?_;have e:=f4 (by clear hn hr hQ;(try simp only[decide_eq_true_eq,decide_eq_false_iff_not] at *); first | (simp[-Int.not_lt, -Int.not_le, *,n4]; done) | (exfalso;omega) | (exfalso;simp_all;done)); simp -implicitDefEqProofs;refine hQ _ _ _ ?_;simp -implicitDefEqProofs[e]; done)
    | (refine hn _ (by simp -implicitDefEqProofs[AC.dsts,Au,At,Aq]) ?_;clear hn hr hQ;(try simp only[decide_eq_true_eq,decide_eq_false_iff_not] at *); first | (simp[-Int.not_lt, -Int.not_le, *,n4]; done) | (exfalso;omega) | (exfalso;simp_all;done))
 simp -implicitDefEqProofs[-Int.not_lt, -Int.not_le, -A3,AC.dsts,Au,At]
 refine E2 (fun f=>n5 c=true) (fun Q' hn hr=>?_) (fun f hI=>?_)
 · clear hc f1 f2 f3 f4 fin5
   simp -implicitDefEqProofs[-Int.not_lt, -Int.not_le,Hc]
   repeat' (first | (refine Cl (fun hb=>?_) (fun hb=>?_)<;>(try simp only[Bool.not_eq_true',Bool.not_eq_true,Bool.not_eq_false,Bool.not_eq_false',Bool.not_true,Bool.not_false,Bool.not_not] at hb)<;>simp -implicitDefEqProofs[-Int.not_lt, -Int.not_le,hb,Hc]) | (refine Dp (fun hb=>?_) (fun hb=>?_)<;>(try simp only[Bool.not_eq_true',Bool.not_eq_true,Bool.not_eq_false,Bool.not_eq_false',Bool.not_true,Bool.not_false,Bool.not_not] at hb)<;>simp -implicitDefEqProofs[-Int.not_lt, -Int.not_le,hb,Hc]) | (refine Ah (Ana c) (by simp) (by simp) (by simp[Ag,Aa,Ac,Al,Af,Kd.l]) ?_;simp -implicitDefEqProofs[-Int.not_lt, -Int.not_le,Hc]) | (refine Ah (W2 c.names) (by simp) (by simp) (by simp[Ag,Aa,Ac,Al,Af,Kd.l]) ?_;simp -implicitDefEqProofs[-Int.not_lt, -Int.not_le,Hc]) | (refine Ah (hs) (by simp) (by simp) (by simp[Ag,Aa,Ac,Al,Af,Kd.l]) ?_;simp -implicitDefEqProofs[-Int.not_lt, -Int.not_le,Hc]))
   clear hs
   all_goals first
    | (refine hr _ _ ?_;have e:=f5 (by clear hn hr hQ;(try simp only[decide_eq_true_eq,decide_eq_false_iff_not] at *); first | (simp[-Int.not_lt, -Int.not_le, *,n5]; done) | (exfalso;omega) | (exfalso;simp_all;done)); simp -implicitDefEqProofs;refine hQ _ _ _ ?_;simp -implicitDefEqProofs[e]; done)
    | (refine hn _ (by simp -implicitDefEqProofs[AC.dsts,Au,At,Aq]) ?_;clear hn hr hQ;(try simp only[decide_eq_true_eq,decide_eq_false_iff_not] at *); first | (simp[-Int.not_lt, -Int.not_le, *,n5]; done) | (exfalso;omega) | (exfalso;simp_all;done))
 have e:=fin5 ‹_› ‹_› ‹_› ‹_› ‹_›
 clear f1 f2 f3 f4 f5 fin5 hs
 simp -implicitDefEqProofs[-Int.not_lt, -Int.not_le,AC.dsts,Au,At]
 refine Ah (hc) (by simp) (by simp) (by simp[Ag,Aa,Ac,Al,Af,Kd.l]) ?_
 simp -implicitDefEqProofs[-Int.not_lt, -Int.not_le]
 refine hQ _ _ _ ?_
 simp -implicitDefEqProofs[-Int.not_lt, -Int.not_le,e]
theorem Aol (c:Cn):Ab Tryz.prog Mj [Aa c] [] (.bool (C4 c)) []:=
 Ayi c fun x _=>Aol x
termination_by SizeOf.sizeOf c
decreasing_by exact Cn.lt_l ‹_›
end Go.Proofs.YtemdkfnenjpioaaGreatDoor
namespace Go.Proofs.YtemdkfnenjpioaaGreatDoor
open Go
attribute [local simp] Ar aev Ax A7 start AV.cells AV.undef Bc Be Bh Bl Bj AV.isCell Bf A1 Bi
attribute [local simp] fin A9 A8 Bb AV.strip Ay A5 AV.inScope Am A0 As
attribute [local simp] Ca Cg
attribute [-simp] Int.not_lt Int.not_le
def A6 (c:Cn):Bool:=decide (Ap c≤20000) && (decide (Cp c≤400) && C4 c)
theorem D5 (c:Cn) (hc:Ap c≤1000000000000):Ab Tryz.prog D3 [Aa c] [] (.bool (A6 c)) []:=by
 refine Ab.go mixed Axe (by simp) fun hfit Q hQ=>?_
 clear hfit
 simp -implicitDefEqProofs[Agp,Aa]
 refine Ah (Oo c hc) (by simp) (by simp) (by simp[Ag,Aa,Ac,Al,Af,Kd.l]) ?_
 by_cases h1:Ap c≤20000
 · have h1':(Ap c:Int)≤20000:=by omega
   simp -implicitDefEqProofs[h1,h1']
   refine Ah (Aka c hc) (by simp) (by simp) (by simp[Ag,Aa,Ac,Al,Af,Kd.l]) ?_
   by_cases h2:Cp c≤400
   · have h2':(Cp c:Int)≤400:=by omega
     simp -implicitDefEqProofs[h2,h2']
     refine Ah (Aol c) (by simp) (by simp) (by simp[Ag,Aa,Ac,Al,Af,Kd.l]) ?_
     simp -implicitDefEqProofs 
     refine hQ _ _ _ ?_
     simp -implicitDefEqProofs[A6,h1,h2]
   · have h2': ¬(Cp c:Int)≤400:=by omega
     simp -implicitDefEqProofs[h2']
     refine hQ _ _ _ ?_
     simp -implicitDefEqProofs[A6,h1,h2]
 · have h1': ¬(Ap c:Int)≤20000:=by omega
   simp -implicitDefEqProofs[h1']
   refine hQ _ _ _ ?_
   simp -implicitDefEqProofs[A6,h1]
def r1 (c:Cn):Bool:=!(decide (c.op < 1) || decide (13 < c.op))
def r2 (c:Cn):Bool:=!((decide (0≤Ab2 c.op) && (!decide ((c.l.length:Int)=Ab2 c.op) || !decide (c.names=[]))) || (decide (Ab2 c.op < 0) && (!decide ((c.l.length:Int)=c.names.length) || !labelsS c.names)))
theorem Asn (c:Cn) (hc:Ap c≤1000000000000):Ab Tryz.prog X7 [Aa c] [] (.bool !A6 c) []:=by
 refine Ab.go mixed Auo (by simp) fun hfit Q hQ=>?_
 clear hfit
 simp -implicitDefEqProofs[Amh,Aa]
 refine Ah (D5 c hc) (by simp) (by simp) (by simp[Ag,Aa,Ac,Al,Af,Kd.l]) ?_
 simp -implicitDefEqProofs 
 refine hQ _ _ _ ?_
 simp -implicitDefEqProofs 
theorem Aut (l:List Cn) (hc: ∀x ∈ l,Ap x≤1000000000000):Ab Tryz.prog Adn [.sl .none (l.map Ai)] [] (.bool (l.all A6)) []:=by
 have h:=Ir l (fun x=>!A6 x) X7 fun x hx=>Asn x (hc x hx)
 rw[Hg] at h
 refine Ab.go mixed Arn (by simp) fun hfit Q hQ=>?_
 clear hfit
 simp -implicitDefEqProofs[Ap2]
 refine Ah (h) (by simp) (by simp) (by simp[Ag,Aa,Ac,Al,Af,Kd.l]) ?_
 simp -implicitDefEqProofs 
 refine hQ _ _ _ ?_
 simp -implicitDefEqProofs 
theorem Vo (s:Sm):Ab Tryz.prog Lz [An s] [] (.bool (opM s.op)) []:=by
 refine Ab.go mixed Apw (by simp) fun hfit Q hQ=>?_
 clear hfit
 simp -implicitDefEqProofs[Ae1,An,Ak s]
 repeat' (first | (refine Cl (fun hb=>?_) (fun hb=>?_)<;>(try simp only[Bool.not_eq_true',Bool.not_eq_true,Bool.not_eq_false,Bool.not_eq_false',Bool.not_true,Bool.not_false,decide_eq_true_eq,decide_eq_false_iff_not,decide_not,Decidable.not_not] at hb)<;>simp -implicitDefEqProofs[hb,opM]) | (refine Dp (fun hb=>?_) (fun hb=>?_)<;>(try simp only[Bool.not_eq_true',Bool.not_eq_true,Bool.not_eq_false,Bool.not_eq_false',Bool.not_true,Bool.not_false,decide_eq_true_eq,decide_eq_false_iff_not,decide_not,Decidable.not_not] at hb)<;>simp -implicitDefEqProofs[hb,opM]))
 all_goals (refine hQ _ _ _ ?_;simp -implicitDefEqProofs[*,opM])
def Ho (label:List UInt8) (s:Sm):Bool:=match Mm label with
 | none=>false
 | some (k,name)=>if k=1 then decide (s.op=1) else if k=2 then decide (s.op=2) else if k=3 then decide (s.op=3) && decide (s.s=name) else if k=4 then opM s.op else decide (s.op=4)
theorem A0n (label:List UInt8) (s:Sm):Ab Tryz.prog Q1 [.str label,An s] [] (.bool (Ho label s)) []:=by
 refine Ab.go mixed Amy (by simp) fun hfit Q hQ=>?_
 clear hfit
 simp -implicitDefEqProofs[Aen,An,Ak s]
 refine Ah (A1y label) (by simp) (Awn _ 0) (by simp) ?_
 cases h:Mm label with
 | none=>
   simp -implicitDefEqProofs[Mw]
   refine hQ _ _ _ ?_
   simp -implicitDefEqProofs[Ho,h]
 | some p=>
   obtain⟨k,name⟩:=p
   simp -implicitDefEqProofs[Mw]
   by_cases h1:k=1
   · simp -implicitDefEqProofs[h1]
     refine hQ _ _ _ ?_
     simp -implicitDefEqProofs[Ho,h,h1]
   by_cases h2:k=2
   · simp -implicitDefEqProofs[h1,h2]
     refine hQ _ _ _ ?_
     simp -implicitDefEqProofs[Ho,h,h1,h2]
   by_cases h3:k=3
   · simp -implicitDefEqProofs[h1,h2,h3]
     by_cases h5:s.op=3
     · simp -implicitDefEqProofs[h5]
       refine hQ _ _ _ ?_
       simp -implicitDefEqProofs[Ho,h,h1,h2,h3,h5]
     · simp -implicitDefEqProofs[h5]
       refine hQ _ _ _ ?_
       simp -implicitDefEqProofs[Ho,h,h1,h2,h3,h5]
   by_cases h4:k=4
   · simp -implicitDefEqProofs[h1,h2,h3,h4]
     refine Ah (Vo s) (by simp) (by simp) (by simp[An,Ak,Af]) ?_
     simp -implicitDefEqProofs 
     refine hQ _ _ _ ?_
     simp -implicitDefEqProofs[Ho,h,h1,h2,h3,h4]
   · simp -implicitDefEqProofs[h1,h2,h3,h4]
     refine hQ _ _ _ ?_
     simp -implicitDefEqProofs[Ho,h,h1,h2,h3,h4]
def noCon (c:Cn):Bool:=decide (c.op=0) && (decide (c.n=0) && (decide (c.s=[]) && (decide (c.k.l=[]) && (decide (c.names=[]) && decide (c.l=[])))))
theorem get2 {α :Type} {l:List α} (h:l.length=2): ∃a b,l=[a,b]:=by
 match l,h with
 | [a,b],_=>exact⟨a,b,rfl⟩
theorem get1 {α :Type} {l:List α} (h:l.length=1): ∃a,l=[a]:=by
 match l,h with
 | [a],_=>exact⟨a,rfl⟩
def Db (s:Sm):Bool:=
 if s.op=1∨s.op=2∨s.op=3 then decide (s.l=[]) else if s.op=4 then (match s.l with | [a]=>opM a.op | _=>false) else if s.op=6 then (match s.l with | [a,b]=>opM a.op && opM b.op | _=>false)
 else if s.op=5 then decide (s.names.length≤1000) && (asc s.names && Bt Ho s.names s.l) else false
set_option maxHeartbeats 600000 in
theorem Awa (s:Sm):Ab Tryz.prog Su [An s] [] (.bool (Db s)) []:=by
 have key: ∀b,Db s=b→Db s=b:=fun _ h=>h
 unfold Db at key
 refine Ab.go mixed Al5 (by simp) fun hfit Q hQ=>?_
 have hf:=Rh (c:=s) (by simpa[Bn,An,AV.fits] using hfit)
 have hln:s.l.length≤1073741824:=hf.2.2.2.2.1
 have hnn:s.names.length≤1073741824:=hf.2.2.2.1
 clear hfit hf key
 by_cases h1:s.op=1
 · simp -implicitDefEqProofs[Ib,An,Ak s,h1]
   refine hQ _ _ _ ?_
   simp -implicitDefEqProofs[Db,h1]
 by_cases h2:s.op=2
 · simp -implicitDefEqProofs[Ib,An,Ak s,h2]
   refine hQ _ _ _ ?_
   simp -implicitDefEqProofs[Db,h2]
 by_cases h3:s.op=3
 · simp -implicitDefEqProofs[Ib,An,Ak s,h3]
   refine hQ _ _ _ ?_
   simp -implicitDefEqProofs[Db,h3]
 by_cases h4:s.op=4
 · simp -implicitDefEqProofs[Ib,An,Ak s,h4]
   by_cases hl:s.l.length=1
   · obtain⟨a,ha⟩:=get1 hl
     simp -implicitDefEqProofs[ha]
     refine Ah (Vo a) (by simp) (by simp) (by simp[An]) ?_
     simp -implicitDefEqProofs 
     refine hQ _ _ _ ?_
     simp -implicitDefEqProofs[Db,h4,ha]
   · have hl': ¬(s.l.length:Int)=1:=by omega
     have e:Db s=false:=by
      rcases hs:s.l with _ | ⟨a,_ | ⟨b,r⟩⟩
      · simp[Db,h4,hs]
      · rw[hs] at hl;simp at hl
      · simp[Db,h4,hs]
     simp -implicitDefEqProofs[hl',hl]
     refine hQ _ _ _ ?_
     simp -implicitDefEqProofs[e]
 by_cases h6:s.op=6
 · simp -implicitDefEqProofs[Ib,An,Ak s,h6]
   by_cases hl:s.l.length=2
   · obtain⟨a,b,ha⟩:=get2 hl
     simp -implicitDefEqProofs[ha]
     refine Ah (Vo a) (by simp) (by simp) (by simp[An]) ?_
     cases hm:opM a.op
     · simp -implicitDefEqProofs 
       refine hQ _ _ _ ?_
       simp -implicitDefEqProofs[Db,h6,ha,hm]
     · simp -implicitDefEqProofs 
       refine Ah (Vo b) (by simp) (by simp) (by simp[An]) ?_
       simp -implicitDefEqProofs 
       refine hQ _ _ _ ?_
       simp -implicitDefEqProofs[Db,h6,ha,hm]
   · have hl': ¬(s.l.length:Int)=2:=by omega
     have e:Db s=false:=by
      rcases hs:s.l with _ | ⟨a,_ | ⟨b,_ | ⟨c,r⟩⟩⟩
      · simp[Db,h6,hs]
      · simp[Db,h6,hs]
      · rw[hs] at hl;simp at hl
      · simp[Db,h6,hs]
     simp -implicitDefEqProofs[hl',hl]
     refine hQ _ _ _ ?_
     simp -implicitDefEqProofs[e]
 by_cases h5:s.op=5
 · have key:Db s=(decide (s.names.length≤1000) && (asc s.names && Bt Ho s.names s.l)):=by simp[Db,h5]
   by_cases ha:s.l.length=s.names.length
   case neg=>
    have ha': ¬(s.l.length:Int)=s.names.length:=by omega
    have e:Db s=false:=by rw[key,Jt _ _ _ (by omega)]; simp
    simp -implicitDefEqProofs[Ib,An,Ak s,h5,Hc,ha,ha']
    refine hQ _ _ _ ?_
    simp -implicitDefEqProofs[e]
   by_cases hb:s.names.length≤1000
   case neg=>
    have hb':(1000:Int) < s.names.length:=by omega
    have e:Db s=false:=by rw[key]; simp[hb]
    simp -implicitDefEqProofs[Ib,An,Ak s,h5,Hc,ha,hb']
    refine hQ _ _ _ ?_
    simp -implicitDefEqProofs[e]
   have hb': ¬(1000:Int) < s.names.length:=by omega
   simp -implicitDefEqProofs[Ib,An,Ak s,h5,Hc,ha,hb']
   refine Ah (W2 s.names) (by simp) (by simp) (by simp[Ag,Aa,Ac,Al,Af,Kd.l]) ?_
   cases hc:asc s.names
   · have e:Db s=false:=by rw[key,hc]; simp
     simp -implicitDefEqProofs 
     refine hQ _ _ _ ?_
     simp -implicitDefEqProofs[e]
   have key2:Db s=Bt Ho s.names s.l:=by rw[key,hc]; simp[hb]
   simp -implicitDefEqProofs[Hc]
   refine B5 (AWp.loopI [] (fun n f h G=>∃k:Nat,k+n=s.names.length∧f 72= .int .i64 k∧Bt Ho (s.names.drop k) (s.l.drop k)=Db s) (s.names.length) (by simp) ⟨0,by simp,rfl,by rw[key2]; rfl⟩ ?_)
   rintro n f h G ⟨k,hk,h72,hs⟩
   refine AWp.run mixed fun Q2 hQ2=>?_
   simp -implicitDefEqProofs[AC.dsts,Au,At,Bo,h72]
   by_cases hlt:k < s.names.length
   · have hlt2:k < s.l.length:=by omega
     have hd:=List.drop_eq_getElem_cons hlt
     have hd2:=List.drop_eq_getElem_cons hlt2
     have hg:=Atl s.names k hlt
     simp -implicitDefEqProofs[hlt,hg,hlt2]
     refine Ah (A0n s.names[k] s.l[k]) (by simp) (by simp) (by simp[An]) ?_
     cases hv:Ho s.names[k] s.l[k]
     · have e:Db s=false:=by rw[← hs,hd,hd2]; simp[Bt,hv]
       simp -implicitDefEqProofs 
       refine hQ2 _ _ _ (Dg ?_)
       show KR _ _ Q _ _
       simp -implicitDefEqProofs 
       refine hQ _ _ _ ?_
       simp -implicitDefEqProofs[e]
     · simp -implicitDefEqProofs[Ba (n:=(k:Int)+1) (by omega) (by omega)]
       refine hQ2 _ _ _ (Cb (n - 1) (h) rfl (by omega) (by simp -implicitDefEqProofs[AC.dsts,Au,At,Aq]) ?_)
       refine⟨k+1,by omega,by simp[Aq],?_⟩
       rw[← hs,hd,hd2]; simp[Bt,hv]
   · have e:Db s=true:=by rw[← hs,List.drop_eq_nil_of_le (by omega),List.drop_eq_nil_of_le (by omega)]; simp[Bt]
     simp -implicitDefEqProofs[hlt]
     refine hQ2 _ _ _ (Ce ?_)
     show KE _ 1 _ Q _ _
     simp -implicitDefEqProofs 
     refine hQ _ _ _ ?_
     simp -implicitDefEqProofs[e]
 · simp -implicitDefEqProofs[Ib,An,Ak s,h1,h2,h3,h4,h5,h6]
   refine hQ _ _ _ ?_
   simp -implicitDefEqProofs[Db,h1,h2,h3,h4,h5,h6]
end Go.Proofs.YtemdkfnenjpioaaGreatDoor
namespace Go.Proofs.YtemdkfnenjpioaaGreatDoor
open Go
def m1 (s:Sm):Bool:=Db s && !(!decide (s.op=5) && decide (0 < s.names.length))
def m2 (s:Sm):Bool:=if D2 s.op=true then A6 s.con else C5 s.con Az
def m3 (s:Sm):Bool:=if s.op=2 then Ee s.k else decide (¬ 0 < s.k.l.length)
def m4 (s:Sm):Bool:=if s.op=3 then E8 s.s 2 else decide (s.s=[])
def m5 (s:Sm):Bool:=if s.op=4 then decide (s.n=0) && (Ej s.ks && decide (s.more=[])) else if s.op=6 then Ej s.ks && (Ej s.more && (decide (s.n=0) || (decide (s.n=1) && decide (s.more=[]))))
 else decide (s.n=0) && (decide (s.ks=[]) && decide (s.more=[]))
def C2 (s:Sm):Bool:=m1 s && (m2 s && (m3 s && (m4 s && m5 s)))
end Go.Proofs.YtemdkfnenjpioaaGreatDoor
namespace Go.Proofs.YtemdkfnenjpioaaGreatDoor
open Go
attribute [local simp] Ar aev Ax A7 start AV.cells AV.undef Bc Be Bh Bl Bj AV.isCell Bf A1 Bi
attribute [local simp] fin A9 A8 Bb AV.strip Ay A5 AV.inScope Am A0 As
attribute [local simp] Ca Cg
def q1 (s:Sm):Bool:=!(decide (s.op < 1) || decide (6 < s.op))
def q2 (s:Sm):Bool:=if D2 s.op=true then !noCon s.con && A6 s.con else noCon s.con
def q5 (s:Sm):Bool:=Ej s.ks && (Ej s.more && (!(decide (0 < s.ks.length) && (!decide (s.op=4) && !decide (s.op=6))) && !(decide (0 < s.more.length) && (!decide (s.op=6) || decide (s.n=1)))))
def q6 (s:Sm):Bool:=!(!decide (s.n=0) && (!decide (s.op=6) || !decide (s.n=1))) && !(decide (0 < s.names.length) && !decide (s.op=5))
end Go.Proofs.YtemdkfnenjpioaaGreatDoor
namespace Go.Proofs.YtemdkfnenjpioaaGreatDoor
open Go
attribute [local simp] Ar aev Ax A7 start AV.cells AV.undef Bc Be Bh Bl Bj AV.isCell Bf A1 Bi
attribute [local simp] fin A9 A8 Bb AV.strip Ay A5 AV.inScope Am A0 As
def C1:Sm→Prop
 | .mk _ _ _ c _ _ _ _ l=>Ap c≤1000000000000∧∀x ∈ l,C1 x
theorem Hz (s:Sm):C1 s↔Ap s.con≤1000000000000∧∀x ∈ s.l,C1 x:=by
 cases s;rw[C1]; rfl
mutual
def mS:Sm→Int→Int→Int × Bool
 | .mk o n s c k ks more names l,left,depth=>if left≤0∨400 < depth∨C2 (.mk o n s c k ks more names l)=false then (0,false) else mSs l left depth (1+(if D2 o=true then (Ap c:Int) else 0))
def mSs:List Sm→Int→Int→Int→Int × Bool
 | [],left,_,n=>(n,decide (n≤left))
 | x :: xs,left,depth,n=>if (mS x (left - n) (depth+1)).2=true then mSs xs left depth (n+(mS x (left - n) (depth+1)).1) else (0,false)
end
theorem mS_eq (s:Sm) (left depth:Int):mS s left depth=if left≤0∨400 < depth∨C2 s=false then (0,false) else mSs s.l left depth (1+(if D2 s.op=true then (Ap s.con:Int) else 0)):=by
 cases s;rw[mS]; rfl
mutual
theorem Yd: ∀(s:Sm) (left depth:Int),(mS s left depth).2=true→1≤(mS s left depth).1∧(mS s left depth).1≤left
 | .mk o n s c k ks more names l,left,depth,h=>by
   rw[mS] at h ⊢
   split
   · rename_i hc;rw[if_pos hc] at h;cases h
   · rename_i hc;rw[if_neg hc] at h
     exact mSs_le l left depth _ (by split<;>omega) h
theorem mSs_le: ∀(l:List Sm) (left depth n:Int),1≤n→(mSs l left depth n).2=true→1≤(mSs l left depth n).1∧(mSs l left depth n).1≤left
 | [],left,depth,n,hn,h=>by simp only[mSs,decide_eq_true_eq] at h ⊢; omega
 | x :: xs,left,depth,n,hn,h=>by
   rw[mSs] at h ⊢
   split
   · rename_i hc;rw[if_pos hc] at h
     have:=Yd x (left - n) (depth+1) hc
     exact mSs_le xs left depth _ (by omega) h
   · rename_i hc;rw[if_neg hc] at h;cases h
end
def Gf (p:Int × Bool):AV:=.tup [.int .i64 p.1,.bool p.2]
theorem Adj (p:Int × Bool) (n:Nat):(Gf p).inScope n=true:=by simp[Gf]
theorem Fp {c:Cn} (h:A6 c=true):Ap c≤20000:=by
 simp only[A6,Bool.and_eq_true,decide_eq_true_eq] at h;exact h.1
theorem A0y {s:Sm} (h:C2 s=true) (ho:D2 s.op=true):Ap s.con≤20000:=by
 simp only[C2,Bool.and_eq_true] at h
 have:=h.2.1
 rw[m2,if_pos ho] at this
 exact Fp this
def Ct (s:Sm):Bool:=(mS s 20000 1).2
def Di (s:Sm):Int:=if Ct s=true then (mS s 20000 1).1 else 0
end Go.Proofs.YtemdkfnenjpioaaGreatDoor
