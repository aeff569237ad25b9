/- Joined: L1 K19 K20 K21 K22 K23 K26 D27 K28. -/
import Derived.Shelf.Strings.Cut
import Derived.Shelf.Strings.Fields
import Derived.Shelf.Strconv.AtoiAll
import Derived.Test.YtblbepjnkehoaaaGreatDoorProg
import Derived.Test.YtblbepjnkehoaaaGreatDoorG10
import Derived.Test.YtblbepjnkehoaaaGreatDoorG06
import Derived.Test.YtblbepjnkehoaaaGreatDoorG05
import Derived.Test.YtblbepjnkehoaaaGreatDoorG04
import Derived.Test.YtblbepjnkehoaaaGreatDoorG03
set_option linter.unusedSimpArgs false
set_option linter.unusedVariables false
set_option maxHeartbeats 4000000
/- The library's functions of this program are those of the shelf: laid by the shelf's tools. -/
namespace Go.Proofs
open Go.Shelf
def Tryz.lays145_ren : Go.Shelf.Ren := ⟨fun | 145 => 167 | 220 => 191 | 219 => 202 | 217 => 214 | 225 => 215 | 224 => 216 | 267 => 217 | 266 => 227 | 314 => 228 | n => n, fun | 9 => 9 | 4 => 4 | 59 => 161 | 3 => 3 | 5 => 5 | 46 => 133 | 146 => 204 | 51 => 156 | n => n, fun | 1 => 1 | n => n⟩
theorem Tryz.lays145 : Go.Proofs.Lays.n145 Tryz.prog Tryz.lays145_ren := {
  mixed := by kernel_rfl
  f145 := Tryz.func167.trans (congrArg some (by kernel_rfl))
  f217 := Tryz.func214.trans (congrArg some (by kernel_rfl))
  f219 := Tryz.func202.trans (congrArg some (by kernel_rfl))
  f220 := Tryz.func191.trans (congrArg some (by kernel_rfl))
  f224 := Tryz.func216.trans (congrArg some (by kernel_rfl))
  f225 := Tryz.func215.trans (congrArg some (by kernel_rfl))
  f266 := Tryz.func227.trans (congrArg some (by kernel_rfl))
  f267 := Tryz.func217.trans (congrArg some (by kernel_rfl))
  f314 := Tryz.func228.trans (congrArg some (by kernel_rfl))
  t3 := Tryz.underlying3
  a3 := Tryz.isAgg3
  z3 := Tryz.sizeOf3
  v3 := Tryz.zeroValue3
  t4 := Tryz.underlying4
  a4 := Tryz.isAgg4
  z4 := Tryz.sizeOf4
  v4 := Tryz.zeroValue4
  t5 := Tryz.underlying5
  a5 := Tryz.isAgg5
  z5 := Tryz.sizeOf5
  v5 := Tryz.zeroValue5
  t9 := Tryz.underlying9
  a9 := Tryz.isAgg9
  z9 := Tryz.sizeOf9
  v9 := Tryz.zeroValue9
  t46 := Tryz.underlying133
  a46 := Tryz.isAgg133
  z46 := Tryz.sizeOf133
  v46 := Tryz.zeroValue133
  t51 := Tryz.underlying156
  a51 := Tryz.isAgg156
  z51 := Tryz.sizeOf156
  v51 := Tryz.zeroValue156
  t59 := Tryz.underlying161
  a59 := Tryz.isAgg161
  z59 := Tryz.sizeOf161
  v59 := Tryz.zeroValue161
  t146 := Tryz.underlying204
  a146 := Tryz.isAgg204
  z146 := Tryz.sizeOf204
  v146 := Tryz.zeroValue204
  g1 := by kernel_rfl }
def Tryz.laysC172_ren : Go.Shelf.Ren := ⟨fun | 172 => 192 | 244 => 203 | 245 => 204 | 247 => 218 | 279 => 219 | 280 => 220 | 281 => 221 | 282 => 222 | 287 => 229 | 316 => 230 | 171 => 106 | 205 => 231 | 321 => 234 | 322 => 235 | 243 => 142 | 246 => 171 | 283 => 194 | 284 => 195 | 285 => 196 | 286 => 197 | 129 => 165 | 317 => 205 | 318 => 206 | 319 => 207 | 320 => 208 | 337 => 223 | 338 => 224 | n => n, fun | 9 => 9 | 3 => 3 | 75 => 136 | 76 => 137 | 4 => 4 | 5 => 5 | 167 => 198 | 37 => 90 | 0 => 0 | 85 => 199 | 2 => 2 | 168 => 201 | 53 => 158 | 175 => 206 | 46 => 133 | 210 => 210 | 127 => 119 | 145 => 218 | 143 => 216 | 21 => 21 | 171 => 179 | 173 => 181 | 212 => 192 | 51 => 156 | 20 => 20 | 213 => 193 | 232 => 212 | 233 => 213 | 80 => 97 | n => n, fun | 15 => 2 | 16 => 3 | 17 => 0 | 18 => 4 | 19 => 5 | n => n⟩
theorem Tryz.laysC172 : Go.Proofs.LaysC.n172 Tryz.prog Tryz.laysC172_ren := {
  mixed := by kernel_rfl
  f129 := Tryz.func165.trans (congrArg some (by kernel_rfl))
  f171 := Tryz.func106.trans (congrArg some (by kernel_rfl))
  f172 := Tryz.func192.trans (congrArg some (by kernel_rfl))
  f205 := Tryz.func231.trans (congrArg some (by kernel_rfl))
  f243 := Tryz.func142.trans (congrArg some (by kernel_rfl))
  f244 := Tryz.func203.trans (congrArg some (by kernel_rfl))
  f245 := Tryz.func204.trans (congrArg some (by kernel_rfl))
  f246 := Tryz.func171.trans (congrArg some (by kernel_rfl))
  f247 := Tryz.func218.trans (congrArg some (by kernel_rfl))
  f279 := Tryz.func219.trans (congrArg some (by kernel_rfl))
  f280 := Tryz.func220.trans (congrArg some (by kernel_rfl))
  f281 := Tryz.func221.trans (congrArg some (by kernel_rfl))
  f282 := Tryz.func222.trans (congrArg some (by kernel_rfl))
  f283 := Tryz.func194.trans (congrArg some (by kernel_rfl))
  f284 := Tryz.func195.trans (congrArg some (by kernel_rfl))
  f285 := Tryz.func196.trans (congrArg some (by kernel_rfl))
  f286 := Tryz.func197.trans (congrArg some (by kernel_rfl))
  f287 := Tryz.func229.trans (congrArg some (by kernel_rfl))
  f316 := Tryz.func230.trans (congrArg some (by kernel_rfl))
  f317 := Tryz.func205.trans (congrArg some (by kernel_rfl))
  f318 := Tryz.func206.trans (congrArg some (by kernel_rfl))
  f319 := Tryz.func207.trans (congrArg some (by kernel_rfl))
  f320 := Tryz.func208.trans (congrArg some (by kernel_rfl))
  f321 := Tryz.func234.trans (congrArg some (by kernel_rfl))
  f322 := Tryz.func235.trans (congrArg some (by kernel_rfl))
  f337 := Tryz.func223.trans (congrArg some (by kernel_rfl))
  f338 := Tryz.func224.trans (congrArg some (by kernel_rfl))
  t0 := Tryz.underlying0
  a0 := Tryz.isAgg0
  z0 := Tryz.sizeOf0
  v0 := Tryz.zeroValue0
  t2 := Tryz.underlying2
  a2 := Tryz.isAgg2
  z2 := Tryz.sizeOf2
  v2 := Tryz.zeroValue2
  t3 := Tryz.underlying3
  a3 := Tryz.isAgg3
  z3 := Tryz.sizeOf3
  v3 := Tryz.zeroValue3
  t4 := Tryz.underlying4
  a4 := Tryz.isAgg4
  z4 := Tryz.sizeOf4
  v4 := Tryz.zeroValue4
  t5 := Tryz.underlying5
  a5 := Tryz.isAgg5
  z5 := Tryz.sizeOf5
  v5 := Tryz.zeroValue5
  t9 := Tryz.underlying9
  a9 := Tryz.isAgg9
  z9 := Tryz.sizeOf9
  v9 := Tryz.zeroValue9
  t20 := Tryz.underlying20
  a20 := Tryz.isAgg20
  z20 := Tryz.sizeOf20
  v20 := Tryz.zeroValue20
  t21 := Tryz.underlying21
  a21 := Tryz.isAgg21
  z21 := Tryz.sizeOf21
  v21 := Tryz.zeroValue21
  t37 := Tryz.underlying90
  a37 := Tryz.isAgg90
  z37 := Tryz.sizeOf90
  v37 := Tryz.zeroValue90
  t46 := Tryz.underlying133
  a46 := Tryz.isAgg133
  z46 := Tryz.sizeOf133
  v46 := Tryz.zeroValue133
  t51 := Tryz.underlying156
  a51 := Tryz.isAgg156
  z51 := Tryz.sizeOf156
  v51 := Tryz.zeroValue156
  t53 := Tryz.underlying158
  a53 := Tryz.isAgg158
  z53 := Tryz.sizeOf158
  v53 := Tryz.zeroValue158
  t75 := Tryz.underlying136
  a75 := Tryz.isAgg136
  z75 := Tryz.sizeOf136
  v75 := Tryz.zeroValue136
  t76 := Tryz.underlying137
  a76 := Tryz.isAgg137
  z76 := Tryz.sizeOf137
  v76 := Tryz.zeroValue137
  t85 := Tryz.underlying199
  a85 := Tryz.isAgg199
  z85 := Tryz.sizeOf199
  v85 := Tryz.zeroValue199
  t127 := Tryz.underlying119
  a127 := Tryz.isAgg119
  z127 := Tryz.sizeOf119
  v127 := Tryz.zeroValue119
  t143 := Tryz.underlying216
  a143 := Tryz.isAgg216
  z143 := Tryz.sizeOf216
  v143 := Tryz.zeroValue216
  t145 := Tryz.underlying218
  a145 := Tryz.isAgg218
  z145 := Tryz.sizeOf218
  v145 := Tryz.zeroValue218
  t167 := Tryz.underlying198
  a167 := Tryz.isAgg198
  z167 := Tryz.sizeOf198
  v167 := Tryz.zeroValue198
  t168 := Tryz.underlying201
  a168 := Tryz.isAgg201
  z168 := Tryz.sizeOf201
  v168 := Tryz.zeroValue201
  t171 := Tryz.underlying179
  a171 := Tryz.isAgg179
  z171 := Tryz.sizeOf179
  v171 := Tryz.zeroValue179
  t173 := Tryz.underlying181
  a173 := Tryz.isAgg181
  z173 := Tryz.sizeOf181
  v173 := Tryz.zeroValue181
  t175 := Tryz.underlying206
  a175 := Tryz.isAgg206
  z175 := Tryz.sizeOf206
  v175 := Tryz.zeroValue206
  t210 := Tryz.underlying210
  a210 := Tryz.isAgg210
  z210 := Tryz.sizeOf210
  v210 := Tryz.zeroValue210
  t212 := Tryz.underlying192
  a212 := Tryz.isAgg192
  z212 := Tryz.sizeOf192
  v212 := Tryz.zeroValue192
  t213 := Tryz.underlying193
  a213 := Tryz.isAgg193
  z213 := Tryz.sizeOf193
  t232 := Tryz.underlying212
  a232 := Tryz.isAgg212
  z232 := Tryz.sizeOf212
  v232 := Tryz.zeroValue212
  t233 := Tryz.underlying213
  a233 := Tryz.isAgg213
  z233 := Tryz.sizeOf213
  v233 := Tryz.zeroValue213
  g15 := by kernel_rfl
  g16 := by kernel_rfl
  g17 := by kernel_rfl
  g18 := by kernel_rfl
  g19 := by kernel_rfl
  t80 := Tryz.underlying97
  a80 := Tryz.isAgg97
  z80 := Tryz.sizeOf97
  v80 := Tryz.zeroValue97
  i0 := by kernel_rfl
  i2 := by kernel_rfl
  i3 := by kernel_rfl
  i4 := by kernel_rfl
  i5 := by kernel_rfl
  i9 := by kernel_rfl
  i20 := by kernel_rfl
  i21 := by kernel_rfl
  i37 := by kernel_rfl
  i46 := by kernel_rfl
  i51 := by kernel_rfl
  i53 := by kernel_rfl
  i75 := by kernel_rfl
  i76 := by kernel_rfl
  i80 := by kernel_rfl
  i85 := by kernel_rfl
  i127 := by kernel_rfl
  i143 := by kernel_rfl
  i145 := by kernel_rfl
  i167 := by kernel_rfl
  i168 := by kernel_rfl
  i171 := by kernel_rfl
  i173 := by kernel_rfl
  i175 := by kernel_rfl
  i210 := by kernel_rfl
  i212 := by kernel_rfl
  i232 := by kernel_rfl
  i233 := by kernel_rfl
  m15 := by kernel_rfl
  m16 := by kernel_rfl
  m17 := by kernel_rfl
  m18 := by kernel_rfl
  m19 := by kernel_rfl
  c0 := by kernel_rfl
  c2 := by kernel_rfl
  c3 := by kernel_rfl
  c4 := by kernel_rfl
  c5 := by kernel_rfl
  c9 := by kernel_rfl
  c20 := by kernel_rfl
  c21 := by kernel_rfl
  c37 := by kernel_rfl
  c46 := by kernel_rfl
  c51 := by kernel_rfl
  c53 := by kernel_rfl
  c75 := by kernel_rfl
  c76 := by kernel_rfl
  c80 := by kernel_rfl
  c85 := by kernel_rfl
  c127 := by kernel_rfl
  c143 := by kernel_rfl
  c145 := by kernel_rfl
  c167 := by kernel_rfl
  c168 := by kernel_rfl
  c171 := by kernel_rfl
  c173 := by kernel_rfl
  c175 := by kernel_rfl
  c210 := by kernel_rfl
  c212 := by kernel_rfl
  c213 := by kernel_rfl
  c232 := by kernel_rfl
  c233 := by kernel_rfl }
def Tryz.lays157_ren : Go.Shelf.Ren := ⟨fun | 157 => 237 | 229 => 239 | 199 => 240 | 261 => 241 | 311 => 242 | 312 => 243 | n => n, fun | 9 => 9 | 31 => 25 | 3 => 3 | 5 => 5 | 4 => 4 | 119 => 221 | 0 => 0 | 40 => 223 | 152 => 224 | 21 => 21 | 154 => 226 | 51 => 156 | 141 => 228 | 196 => 232 | 193 => 229 | 198 => 235 | 49 => 233 | 194 => 230 | 201 => 238 | 226 => 240 | 46 => 133 | 227 => 241 | n => n, fun | 0 => 6 | 6 => 7 | n => n⟩
theorem Tryz.lays157 : Go.Proofs.Lays.n157 Tryz.prog Tryz.lays157_ren := {
  mixed := by kernel_rfl
  f157 := Tryz.func237.trans (congrArg some (by kernel_rfl))
  f199 := Tryz.func240.trans (congrArg some (by kernel_rfl))
  f229 := Tryz.func239.trans (congrArg some (by kernel_rfl))
  f261 := Tryz.func241.trans (congrArg some (by kernel_rfl))
  f311 := Tryz.func242.trans (congrArg some (by kernel_rfl))
  f312 := Tryz.func243.trans (congrArg some (by kernel_rfl))
  t0 := Tryz.underlying0
  a0 := Tryz.isAgg0
  z0 := Tryz.sizeOf0
  v0 := Tryz.zeroValue0
  t3 := Tryz.underlying3
  a3 := Tryz.isAgg3
  z3 := Tryz.sizeOf3
  v3 := Tryz.zeroValue3
  t4 := Tryz.underlying4
  a4 := Tryz.isAgg4
  z4 := Tryz.sizeOf4
  v4 := Tryz.zeroValue4
  t5 := Tryz.underlying5
  a5 := Tryz.isAgg5
  z5 := Tryz.sizeOf5
  v5 := Tryz.zeroValue5
  t9 := Tryz.underlying9
  a9 := Tryz.isAgg9
  z9 := Tryz.sizeOf9
  v9 := Tryz.zeroValue9
  t21 := Tryz.underlying21
  a21 := Tryz.isAgg21
  z21 := Tryz.sizeOf21
  v21 := Tryz.zeroValue21
  t31 := Tryz.underlying25
  a31 := Tryz.isAgg25
  z31 := Tryz.sizeOf25
  v31 := Tryz.zeroValue25
  t40 := Tryz.underlying223
  a40 := Tryz.isAgg223
  z40 := Tryz.sizeOf223
  v40 := Tryz.zeroValue223
  t46 := Tryz.underlying133
  a46 := Tryz.isAgg133
  z46 := Tryz.sizeOf133
  v46 := Tryz.zeroValue133
  t49 := Tryz.underlying233
  a49 := Tryz.isAgg233
  z49 := Tryz.sizeOf233
  v49 := Tryz.zeroValue233
  t51 := Tryz.underlying156
  a51 := Tryz.isAgg156
  z51 := Tryz.sizeOf156
  v51 := Tryz.zeroValue156
  t119 := Tryz.underlying221
  a119 := Tryz.isAgg221
  z119 := Tryz.sizeOf221
  t141 := Tryz.underlying228
  a141 := Tryz.isAgg228
  z141 := Tryz.sizeOf228
  v141 := Tryz.zeroValue228
  t152 := Tryz.underlying224
  a152 := Tryz.isAgg224
  z152 := Tryz.sizeOf224
  v152 := Tryz.zeroValue224
  t154 := Tryz.underlying226
  a154 := Tryz.isAgg226
  z154 := Tryz.sizeOf226
  v154 := Tryz.zeroValue226
  t193 := Tryz.underlying229
  a193 := Tryz.isAgg229
  z193 := Tryz.sizeOf229
  v193 := Tryz.zeroValue229
  t194 := Tryz.underlying230
  a194 := Tryz.isAgg230
  z194 := Tryz.sizeOf230
  v194 := Tryz.zeroValue230
  t196 := Tryz.underlying232
  a196 := Tryz.isAgg232
  z196 := Tryz.sizeOf232
  v196 := Tryz.zeroValue232
  t198 := Tryz.underlying235
  a198 := Tryz.isAgg235
  z198 := Tryz.sizeOf235
  v198 := Tryz.zeroValue235
  t201 := Tryz.underlying238
  a201 := Tryz.isAgg238
  z201 := Tryz.sizeOf238
  v201 := Tryz.zeroValue238
  t226 := Tryz.underlying240
  a226 := Tryz.isAgg240
  z226 := Tryz.sizeOf240
  v226 := Tryz.zeroValue240
  t227 := Tryz.underlying241
  a227 := Tryz.isAgg241
  z227 := Tryz.sizeOf241
  v227 := Tryz.zeroValue241
  g0 := by kernel_rfl
  g6 := by kernel_rfl }
end Go.Proofs
/- Library functions at the level of data: strings.Cut at a point, strings.Fields, strconv.Atoi; key words, numbers, names of constants. -/
namespace Go.Proofs.YtblbepjnkehoaaaGreatDoor
open Go Go.RowKit
attribute [local simp] astep aev putA guardA start AV.cells AV.undef takeCells splice intBin strBin abin AV.isCell loadV fillR fillA
attribute [local simp] fin aRes aResL aRes1 AV.strip stripL stripE AV.inScope scopedL scopedE scopedH
set_option maxRecDepth 10000
set_option linter.unusedSimpArgs false
attribute [local simp] optInt
theorem slices_Index_string_call (l : List (List UInt8)) (s : List UInt8) : HCall Go.Proofs.Tryz.prog i_slices_Index_string [.sl .none (strRows l), .str s] [] (.int .i64 (idxFrom (fun x => s == x) l 0)) [] := by
  refine HCall.go mixed ok_slices_Index_string (by simp) fun hfit Q hQ => ?_
  have hln : l.length ≤ 1073741824 := by simpa [fitsL, AV.fits, maxL, strRows] using hfit.1.1
  clear hfit
  simp -implicitDefEqProofs [c_slices_Index_string, strRows]
  refine WP_loop (AWp.loopI [] (fun n f h G => ∃ k : Nat, k + n = l.length ∧ f 8 = .int .i64 k ∧ idxFrom (fun x => s == x) (l.drop k) k = idxFrom (fun x => s == x) l 0) (l.length) (by simp) ⟨0, by simp, rfl, by simp⟩ ?_)
  rintro n f h G ⟨k, hk, h8, hs⟩
  refine AWp.run mixed fun Q2 hQ2 => ?_
  simp -implicitDefEqProofs [AC.dsts, aoDsts, updT, updH, h8]
  by_cases hlt : k < l.length
  · have hd := List.drop_eq_getElem_cons hlt
    simp -implicitDefEqProofs [hlt]
    refine COND_split (fun hb => ?_) (fun hb => ?_)
    · have e : idxFrom (fun x => s == x) l 0 = k := by rw [← hs, hd, idxFrom, if_pos hb]
      simp -implicitDefEqProofs
      refine hQ2 _ _ _ (loop_ret ?_)
      show KR _ _ Q _ _
      simp -implicitDefEqProofs
      refine hQ _ _ _ ?_
      simp -implicitDefEqProofs [e]
    · simp -implicitDefEqProofs [wrap_i64 (n := (k : Int) + 1) (by omega) (by omega)]
      refine hQ2 _ _ _ (loop_next (n - 1) (h) rfl (by omega) (by simp -implicitDefEqProofs [AC.dsts, aoDsts, updT, slots]) ?_)
      refine ⟨k + 1, by omega, by simp [slots], ?_⟩
      rw [← hs, hd, idxFrom, if_neg (by rw [hb]; simp)]
  · have e : idxFrom (fun x => s == x) l 0 = -1 := by rw [← hs, List.drop_eq_nil_of_le (by omega), idxFrom]
    simp -implicitDefEqProofs [hlt]
    refine hQ2 _ _ _ (loop_exit ?_)
    show KE _ 0 _ Q _ _
    simp -implicitDefEqProofs
    refine hQ _ _ _ ?_
    simp -implicitDefEqProofs [e]
theorem slices_Contains_string_call (l : List (List UInt8)) (s : List UInt8) : HCall Go.Proofs.Tryz.prog i_slices_Contains_string [.sl .none (strRows l), .str s] [] (.bool (l.any fun x => x == s)) [] := by
  have e : (l.any fun x => x == s) = l.any fun x => s == x := by congr 1; funext x; rw [Bool.eq_iff_iff]; simp only [beq_iff_eq]; exact eq_comm
  rw [e]
  refine HCall.go mixed ok_slices_Contains_string (by simp) fun hfit Q hQ => ?_
  clear hfit
  simp -implicitDefEqProofs [c_slices_Contains_string]
  refine CALL_pure (slices_Index_string_call l s) (by simp) (by simp) (by simp [kdAV, cnAV, cnCells_eq, kdCells_eq, strRows, Kd.l]) ?_
  simp -implicitDefEqProofs
  refine hQ _ _ _ ?_
  simp -implicitDefEqProofs [idxFrom_any]
/-- The key words. -/
def keyWords : List (List UInt8) := [[97, 110, 100, 97, 108, 115, 111], [99, 97, 115, 101], [100, 97, 116, 97], [100, 105, 118], [101, 108, 115, 101], [101, 110, 100], [102, 110], [102, 117, 110], [102, 117, 110, 99, 116, 111, 114], [103, 101, 110, 101, 114, 97, 116, 105, 118, 101], [105, 102], [105, 109, 112, 111, 114, 116], [105, 110], [105, 110, 99, 108, 117, 100, 101], [108, 101, 116], [109, 111, 100], [109, 111, 100, 117, 108, 101], [111, 102], [111, 112, 101, 110], [111, 114, 101, 108, 115, 101], [112, 97, 99, 107], [115, 104, 97, 114, 105, 110, 103], [115, 105, 103], [115, 105, 103, 110, 97, 116, 117, 114, 101], [115, 116, 114, 117, 99, 116], [115, 116, 114, 117, 99, 116, 117, 114, 101], [116, 104, 101, 110], [116, 121, 112, 101], [117, 110, 112, 97, 99, 107], [118, 97, 108], [119, 105, 116, 104]]
def keyText : List UInt8 := [97, 110, 100, 97, 108, 115, 111, 32, 99, 97, 115, 101, 32, 100, 97, 116, 97, 32, 100, 105, 118, 32, 101, 108, 115, 101, 32, 101, 110, 100, 32, 102, 110, 32, 102, 117, 110, 32, 102, 117, 110, 99, 116, 111, 114, 32, 103, 101, 110, 101, 114, 97, 116, 105, 118, 101, 32, 105, 102, 32, 105, 109, 112, 111, 114, 116, 32, 105, 110, 32, 105, 110, 99, 108, 117, 100, 101, 32, 108, 101, 116, 32, 109, 111, 100, 32, 109, 111, 100, 117, 108, 101, 32, 111, 102, 32, 111, 112, 101, 110, 32, 111, 114, 101, 108, 115, 101, 32, 112, 97, 99, 107, 32, 115, 104, 97, 114, 105, 110, 103, 32, 115, 105, 103, 32, 115, 105, 103, 110, 97, 116, 117, 114, 101, 32, 115, 116, 114, 117, 99, 116, 32, 115, 116, 114, 117, 99, 116, 117, 114, 101, 32, 116, 104, 101, 110, 32, 116, 121, 112, 101, 32, 117, 110, 112, 97, 99, 107, 32, 118, 97, 108, 32, 119, 105, 116, 104]
theorem keyText_fields : Lib.fields keyText = keyWords := by decide
theorem isSp_blank : ∀ c : Nat, c < 256 → Lib.isSp (UInt8.ofNat c) = blank c := by decide
theorem strings_Fields_call (s : List UInt8) (hasc : ∀ b ∈ s, b.toNat < 128) (hlen : ∀ x ∈ Lib.fields s, x.length ≤ maxL) (hlen2 : (Lib.fields s).length ≤ maxL) : HCall Go.Proofs.Tryz.prog i_strings_Fields [.str s] [] (.sl .none (strRows (Lib.fields s))) [] := by
  refine HCall.below (by kernel_rfl) fun F g w vs hG hlive hr => ?_
  simp only [RL] at hr
  obtain ⟨v, r, rfl, hv, rfl⟩ := hr
  simp only [R] at hv
  obtain ⟨rfl, hs⟩ := hv
  refine (Any.strings_Fields_core Go.Proofs.Tryz.lays157 (by kernel_rfl) ⟨s.toArray⟩ w (by simp [ByteArray.size, maxL] at hs ⊢; omega) (fun j b hb => ?_) (fun c hc => ?_)).mono ?_
  · exact hasc b (List.mem_of_getElem? (by simpa using hb))
  · rw [isSp_blank c hc, show Go.Proofs.Tryz.lays157_ren.g 0 = gAsc from by kernel_rfl]; exact (hG.asc c hc).2
  · rintro e w' ⟨rfl, rfl⟩
    refine ⟨_, rfl, ⟨rfl, rfl⟩, by simp, fun k hk => Below.heap_alloc _ _ _ hk, fun F' hF hF' => ?_⟩
    unfold R
    refine ⟨by simpa [strRows] using hlen2, .inr ⟨w.heap.size, 0, none, (Lib.fields s).length, 1, by simp [strRows], by simp [strRows], ⟨by omega, .inr rfl⟩, ?_, trivial⟩⟩
    refine RE_strs _ 0 (fun o => hF' _ _ (Nat.le_refl _) (by simp)) hlen fun j x hx => ?_
    simp only [World.cell?, World.alloc, Array.getElem?_push]
    simp [hx]
theorem ident_word_call (s : List UInt8) : HCall Go.Proofs.Tryz.prog i_ident_word [.str s] [] (.bool (keyWords.any fun x => x == s)) [] := by
  refine HCall.go mixed ok_ident_word (by simp) fun hfit Q hQ => ?_
  clear hfit
  have hk : ([97, 110, 100, 97, 108, 115, 111, 32, 99, 97, 115, 101, 32, 100, 97, 116, 97, 32, 100, 105, 118, 32, 101, 108, 115, 101, 32, 101, 110, 100, 32, 102, 110, 32, 102, 117, 110, 32, 102, 117, 110, 99, 116, 111, 114, 32, 103, 101, 110, 101, 114, 97, 116, 105, 118, 101, 32, 105, 102, 32, 105, 109, 112, 111, 114, 116, 32, 105, 110, 32, 105, 110, 99, 108, 117, 100, 101, 32, 108, 101, 116, 32, 109, 111, 100, 32, 109, 111, 100, 117, 108, 101, 32, 111, 102, 32, 111, 112, 101, 110, 32, 111, 114, 101, 108, 115, 101, 32, 112, 97, 99, 107, 32, 115, 104, 97, 114, 105, 110, 103, 32, 115, 105, 103, 32, 115, 105, 103, 110, 97, 116, 117, 114, 101, 32, 115, 116, 114, 117, 99, 116, 32, 115, 116, 114, 117, 99, 116, 117, 114, 101, 32, 116, 104, 101, 110, 32, 116, 121, 112, 101, 32, 117, 110, 112, 97, 99, 107, 32, 118, 97, 108, 32, 119, 105, 116, 104] : List UInt8) = keyText := rfl
  have hc := strings_Fields_call keyText (by decide) (by rw [keyText_fields]; decide) (by rw [keyText_fields]; decide)
  rw [keyText_fields] at hc
  simp -implicitDefEqProofs [c_ident_word, hk]
  refine CALL_pure (hc) (by simp) (by simp) (by simp [kdAV, cnAV, cnCells_eq, kdCells_eq, strRows, Kd.l]) ?_
  simp -implicitDefEqProofs
  refine CALL_pure (slices_Contains_string_call keyWords s) (by simp) (by simp) (by simp [kdAV, cnAV, cnCells_eq, kdCells_eq, strRows, Kd.l]) ?_
  simp -implicitDefEqProofs
  refine hQ _ _ _ ?_
  simp -implicitDefEqProofs
def isLow (s : List UInt8) : Bool := isName s 1 && !(keyWords.any fun x => x == s)
/-- A text before and behind the first point. -/
def cutDot : List UInt8 → List UInt8 × List UInt8 × Bool
  | [] => ([], [], false)
  | b :: l => if b == 46 then ([], l, true) else (b :: (cutDot l).1, (cutDot l).2)
theorem index_dot : ∀ s : List UInt8, (0 ≤ Lib.index s [46] ∧ cutDot s = (s.take (Lib.index s [46]).toNat, s.drop ((Lib.index s [46]).toNat + 1), true)) ∨ (Lib.index s [46] = -1 ∧ cutDot s = (s, [], false))
  | [] => .inr ⟨by simp [Lib.index], rfl⟩
  | b :: l => by
    by_cases hb : b = 46
    · subst hb
      left
      simp [Lib.index, cutDot, List.isPrefixOf]
    · have hne : ([46] : List UInt8).isPrefixOf (b :: l) = false := by simp [List.isPrefixOf, Ne.symm hb]
      have hc : cutDot (b :: l) = (b :: (cutDot l).1, (cutDot l).2) := by simp [cutDot, hb]
      rcases index_dot l with ⟨h1, h2⟩ | ⟨h1, h2⟩
      · left
        have e : Lib.index (b :: l) [46] = Lib.index l [46] + 1 := by
          rw [Lib.index, hne]
          have : (Lib.index l [46] == -1) = false := by simp; omega
          simp [this]
        have e2 : (Lib.index l [46] + 1).toNat = (Lib.index l [46]).toNat + 1 := by omega
        rw [e, hc, h2, e2]
        exact ⟨by omega, by simp⟩
      · right
        have e : Lib.index (b :: l) [46] = -1 := by rw [Lib.index, hne, h1]; simp
        rw [e, hc, h2]
        exact ⟨rfl, rfl⟩
theorem cut_dot (s : List UInt8) : Lib.cut s [46] = cutDot s := by
  unfold Lib.cut
  rcases index_dot s with ⟨h1, h2⟩ | ⟨h1, h2⟩
  · rw [if_pos h1, h2]; rfl
  · rw [if_neg (by omega), h2]
theorem cutDot_len (s : List UInt8) : (cutDot s).1.length ≤ s.length ∧ (cutDot s).2.1.length ≤ s.length := by
  induction s with
  | nil => simp [cutDot]
  | cons b l ih =>
    simp only [cutDot]
    split
    · simp
    · simp; omega
theorem strings_Cut_call (s : List UInt8) : HCall Go.Proofs.Tryz.prog i_strings_Cut [.str s, .str [46]] [] (.tup [.str (cutDot s).1, .str (cutDot s).2.1, .bool (cutDot s).2.2]) [] := by
  refine HCall.below (by kernel_rfl) fun F g w vs hG hlive hr => ?_
  obtain ⟨v, u, rfl, hv, hu⟩ := RL_two hr
  simp only [R] at hv hu
  obtain ⟨rfl, hs⟩ := hv
  obtain ⟨rfl, _⟩ := hu
  obtain ⟨_, m, hm⟩ := hG.mxl
  rw [show gMxl = Go.Proofs.Tryz.lays145_ren.g 1 from by kernel_rfl] at hm
  refine (Any.strings_Cut Go.Proofs.Tryz.lays145 ⟨s.toArray⟩ ⟨#[46]⟩ m w (by simp [ByteArray.size, maxL] at hs ⊢; omega) hm).mono ?_
  rintro e w' ⟨rfl, n, rfl⟩
  refine ⟨_, rfl, ⟨rfl, rfl⟩, Nat.le_refl _, fun k hk => rfl, fun F' hF hF' => ?_⟩
  have hl := cutDot_len s
  have e1 : Lib.cut s [46] = cutDot s := cut_dot s
  simp only [e1]
  unfold R
  refine ⟨_, rfl, ?_⟩
  simp only [RL]
  exact ⟨_, _, rfl, R_strV (by omega), _, _, rfl, R_strV (by omega), _, _, rfl, by unfold R; rfl, rfl⟩
/-! Numbers -/
def dval (acc : Nat) (l : List UInt8) : Nat := l.foldl (fun a c => 10 * a + (c.toNat - 48)) acc
theorem dval_nil (acc : Nat) : dval acc [] = acc := rfl
theorem dval_cons (acc : Nat) (c : UInt8) (l : List UInt8) : dval acc (c :: l) = dval (10 * acc + (c.toNat - 48)) l := by simp only [dval, List.foldl_cons]
def isDig (c : UInt8) : Bool := cls c.toNat == 3
theorem isDig_iff (c : UInt8) : isDig c = true ↔ 48 ≤ c.toNat ∧ c.toNat ≤ 57 := by
  generalize hn : c.toNat = n
  simp only [isDig, cls, hn, beq_iff_eq]
  split
  · constructor <;> intro h <;> omega
  · split
    · constructor <;> intro h <;> omega
    · split
      · constructor <;> intro h <;> omega
      · split
        · constructor <;> intro h <;> omega
        · split <;> constructor <;> intro h <;> omega
theorem dval_le (l : List UInt8) (acc : Nat) : acc ≤ dval acc l := by
  induction l generalizing acc with
  | nil => exact Nat.le_refl _
  | cons c l ih => rw [dval_cons]; exact Nat.le_trans (by omega) (ih _)
theorem parse_digits : ∀ (l : List UInt8) (acc : Nat), acc < 18446744073709551616 → l.all isDig = true → Lib.parseUint10 acc l = if dval acc l < 18446744073709551616 then .ok (dval acc l) else .range
  | [], acc, ha, _ => by simp [Lib.parseUint10, dval_nil, ha]
  | c :: l, acc, ha, h => by
    simp only [List.all_cons, Bool.and_eq_true] at h
    have hc := (isDig_iff c).1 h.1
    have hle := dval_le l (10 * acc + (c.toNat - 48))
    rw [Lib.parseUint10, if_pos hc, dval_cons]
    split
    · rw [if_neg (by omega)]
    · split
      · rw [if_neg (by omega)]
      · rw [show acc * 10 = 10 * acc from by omega]
        exact parse_digits l _ (by omega) h.2
/-- What a text spells as a number: its value and an error. -/
def numRes (s : List UInt8) : Int × Int :=
  if s = [] ∨ (1 < s.length ∧ s.headD 0 = 48) then (0, 3) else if s.all isDig = true then (if 4503599627370496 < dval 0 s then (0, 6) else (dval 0 s, 0)) else (0, 3)
def numAV (p : Int × Int) : AV := .tup [.int .i64 p.1, .int .i64 p.2]
theorem numAV_scoped (p : Int × Int) (n : Nat) : (numAV p).inScope n = true := by simp [numAV]
def atoiRes (s : List UInt8) : AV := if dval 0 s < 9223372036854775808 then .tup [.int .i64 (dval 0 s), .nili] else .tup [.int .i64 9223372036854775807, .iface 201 (.eptr [])]
theorem atoiRes_scoped (s : List UInt8) (n : Nat) : (atoiRes s).inScope n = true := by unfold atoiRes; split <;> simp
theorem strconv_Atoi_call (s : List UInt8) (hne : s ≠ []) (hd : s.all isDig = true) : HCall Go.Proofs.Tryz.prog i_strconv_Atoi [.str s] [] (atoiRes s) [] := by
  have hall : Lib.atoiAll s = if dval 0 s < 9223372036854775808 then .ok (dval 0 s) else .range := by
    cases s with
    | nil => exact absurd rfl hne
    | cons c r =>
      have hc := (isDig_iff c).1 (by simp only [List.all_cons, Bool.and_eq_true] at hd; exact hd.1)
      have h1 : ¬ (c.toNat = 43 ∨ c.toNat = 45) := by omega
      have h2 : ¬ c.toNat = 45 := by omega
      simp only [Lib.atoiAll, if_neg h1]
      simp only [h2, not_false_eq_true, true_and, false_and, if_false]
      rw [Lib.parseMag, if_neg hne, parse_digits _ 0 (by omega) hd]
      by_cases hx : dval 0 (c :: r) < 18446744073709551616
      · rw [if_pos hx]
        simp only
        by_cases hy : dval 0 (c :: r) < 9223372036854775808
        · rw [if_pos hy, if_neg (by omega)]
        · rw [if_neg hy, if_pos (by omega)]
      · rw [if_neg hx]
        simp only
        rw [if_neg (by omega)]
  have hsat : Lib.atoiSat s = 9223372036854775807 := by
    cases s with
    | nil => rfl
    | cons c r =>
      have hc := (isDig_iff c).1 (by simp only [List.all_cons, Bool.and_eq_true] at hd; exact hd.1)
      unfold Lib.atoiSat
      rw [if_neg (by simp; omega)]
  refine HCall.below (by kernel_rfl) fun F g w vs hG hlive hr => ?_
  simp only [RL] at hr
  obtain ⟨v, r, rfl, hv, rfl⟩ := hr
  simp only [R] at hv
  obtain ⟨rfl, hs⟩ := hv
  have hsz : (⟨s.toArray⟩ : ByteArray).size = s.length := by simp [ByteArray.size]
  by_cases hlt : dval 0 s < 9223372036854775808
  · rw [if_pos hlt] at hall
    refine (Any.strconv_Atoi_ok Go.Proofs.Tryz.laysC172 ⟨s.toArray⟩ (by rw [hsz]; simp [maxL] at hs; omega) (dval 0 s) hall w).mono ?_
    rintro e w' ⟨rfl, hw⟩
    have hb : Below w.heap.size w w' := by
      rcases hw with rfl | ⟨t, rfl⟩
      · exact Below.refl _ _
      · exact Lib.bytesWorld_below _ _ _
    refine ⟨_, rfl, ⟨hb.os, hb.output⟩, hb.size, hb.block, fun F' hF hF' => ?_⟩
    unfold atoiRes
    rw [if_pos hlt]
    unfold R
    refine ⟨_, rfl, ?_⟩
    simp only [RL]
    refine ⟨_, _, rfl, ?_, _, _, rfl, ?_, rfl⟩
    · unfold R; exact ⟨rfl, by simp [IntKind.has, IntKind.min, IntKind.max, IntKind.signed, IntKind.bits]; omega⟩
    · unfold R; rfl
  · rw [if_neg hlt] at hall
    obtain ⟨_, te, pe, hc⟩ := hG.rng
    rw [show gRng = Go.Proofs.Tryz.laysC172_ren.g 16 from by kernel_rfl] at hc
    refine (Any.strconv_Atoi_range Go.Proofs.Tryz.laysC172 ⟨s.toArray⟩ (by rw [hsz]; simp [maxL] at hs; omega) hall _ w hc (.inr ⟨te, pe, rfl⟩)).mono ?_
    rintro e w' ⟨N, rfl, h1, h2, hb⟩
    refine ⟨_, rfl, ⟨hb.os, hb.output⟩, hb.size, hb.block, fun F' hF hF' => ?_⟩
    unfold atoiRes
    rw [if_neg hlt]
    unfold R
    refine ⟨_, rfl, ?_⟩
    simp only [RL]
    refine ⟨_, _, rfl, ?_, _, _, rfl, ?_, rfl⟩
    · simp only [hsat]; unfold R; exact ⟨rfl, by simp [IntKind.has, IntKind.min, IntKind.max, IntKind.signed, IntKind.bits]⟩
    · unfold R; exact ⟨_, rfl, by unfold R; exact ⟨N, 0, rfl, trivial⟩⟩
end Go.Proofs.YtblbepjnkehoaaaGreatDoor
/- Key words, names, labels: both sides. -/
namespace Go.Proofs.YtblbepjnkehoaaaGreatDoor
open Go
attribute [local simp] astep aev putA guardA start AV.cells AV.undef takeCells splice intBin strBin abin AV.isCell loadV fillR fillA
attribute [local simp] fin aRes aResL aRes1 AV.strip stripL stripE AV.inScope scopedL scopedE scopedH
set_option maxRecDepth 10000
set_option linter.unusedSimpArgs false
attribute [local simp] optInt
theorem isName_ne {s : List UInt8} {q : Int} (h : isName s q = true) : s ≠ [] := by rintro rfl; simp [isName, wordOk] at h
theorem isLow_nil : isLow [] = false := by simp [isLow, isName, wordOk]
theorem isUp_nil : isName [] 2 = false := by simp [isName, wordOk]
theorem ident_IsLower_call (s : List UInt8) : HCall Go.Proofs.Tryz.prog i_ident_IsLower [.str s] [] (.bool (isLow s)) [] := by
  refine HCall.go mixed ok_ident_IsLower (by simp) fun hfit Q hQ => ?_
  clear hfit
  simp -implicitDefEqProofs [c_ident_IsLower]
  refine CALL_pure (ident_name_call s 1) (by simp) (by simp) (by simp [kdAV, cnAV, cnCells_eq, kdCells_eq, strRows, Kd.l]) ?_
  cases h : isName s 1
  · simp -implicitDefEqProofs
    refine hQ _ _ _ ?_
    simp -implicitDefEqProofs [isLow, h]
  · simp -implicitDefEqProofs
    refine CALL_pure (ident_word_call s) (by simp) (by simp) (by simp [kdAV, cnAV, cnCells_eq, kdCells_eq, strRows, Kd.l]) ?_
    simp -implicitDefEqProofs
    refine hQ _ _ _ ?_
    simp -implicitDefEqProofs [isLow, h]
theorem pilasterref01_Find_call (l : List (List UInt8)) (s : List UInt8) : HCall Go.Proofs.Tryz.prog i_pilasterref01_Find [.sl .none (strRows l), .str s] [] (.int .i64 (idxFrom (fun x => x == s) l 0)) [] := by
  refine HCall.go mixed ok_pilasterref01_Find (by simp) fun hfit Q hQ => ?_
  have hln : l.length ≤ 1073741824 := by simpa [fitsL, AV.fits, maxL, strRows] using hfit.1.1
  clear hfit
  simp -implicitDefEqProofs [c_pilasterref01_Find, strRows]
  refine WP_loop (AWp.loopI [] (fun n f h G => ∃ k : Nat, k + n = l.length ∧ f 5 = .int .i64 k ∧ idxFrom (fun x => x == s) (l.drop k) k = idxFrom (fun x => x == s) l 0) (l.length) (by simp) ⟨0, by simp, rfl, by simp⟩ ?_)
  rintro n f h G ⟨k, hk, h5, hs⟩
  refine AWp.run mixed fun Q2 hQ2 => ?_
  simp -implicitDefEqProofs [AC.dsts, aoDsts, updT, updH, h5]
  by_cases hlt : k < l.length
  · have hd := List.drop_eq_getElem_cons hlt
    simp -implicitDefEqProofs [hlt]
    refine COND_split (fun hb => ?_) (fun hb => ?_)
    · have e : idxFrom (fun x => x == s) l 0 = k := by rw [← hs, hd, idxFrom, if_pos hb]
      simp -implicitDefEqProofs
      refine hQ2 _ _ _ (loop_ret ?_)
      show KR _ _ Q _ _
      simp -implicitDefEqProofs
      refine hQ _ _ _ ?_
      simp -implicitDefEqProofs [e]
    · simp -implicitDefEqProofs [wrap_i64 (n := (k : Int) + 1) (by omega) (by omega)]
      refine hQ2 _ _ _ (loop_next (n - 1) (h) rfl (by omega) (by simp -implicitDefEqProofs [AC.dsts, aoDsts, updT, slots]) ?_)
      refine ⟨k + 1, by omega, by simp [slots], ?_⟩
      rw [← hs, hd, idxFrom, if_neg (by rw [hb]; simp)]
  · have e : idxFrom (fun x => x == s) l 0 = -1 := by rw [← hs, List.drop_eq_nil_of_le (by omega), idxFrom]
    simp -implicitDefEqProofs [hlt]
    refine hQ2 _ _ _ (loop_exit ?_)
    show KE _ 0 _ Q _ _
    simp -implicitDefEqProofs
    refine hQ _ _ _ ?_
    simp -implicitDefEqProofs [e]
theorem pilasterref01_Keys_call : HCall Go.Proofs.Tryz.prog i_pilasterref01_Keys [] [] (.sl .none (strRows keyWords)) [] := by
  refine HCall.go mixed ok_pilasterref01_Keys (by simp) fun hfit Q hQ => ?_
  clear hfit
  simp -implicitDefEqProofs [c_pilasterref01_Keys, List.replicate]
  refine hQ _ _ _ ?_
  simp -implicitDefEqProofs [keyWords, strRows]
theorem idx_any (p : List UInt8 → Bool) (l : List (List UInt8)) : decide (idxFrom p l 0 < 0) = !l.any p := by
  rw [← idxFrom_any p l 0, Bool.eq_iff_iff]; simp
theorem pilasterref01_IsLower_call (s : List UInt8) : HCall Go.Proofs.Tryz.prog i_pilasterref01_IsLower [.str s] [] (.bool (isLow s)) [] := by
  refine HCall.go mixed ok_pilasterref01_IsLower (by simp) fun hfit Q hQ => ?_
  clear hfit
  simp -implicitDefEqProofs [c_pilasterref01_IsLower]
  refine CALL_pure (pilasterref01_Word_call s) (by simp) (by simp) (by simp [kdAV, cnAV, cnCells_eq, kdCells_eq, strRows, Kd.l]) ?_
  simp -implicitDefEqProofs
  cases s with
  | nil =>
    have h : wordOk [] = false := by simp [wordOk]
    simp -implicitDefEqProofs [h]
    refine hQ _ _ _ ?_
    simp -implicitDefEqProofs [isLow_nil]
  | cons c s =>
    cases h : wordOk (c :: s)
    · simp -implicitDefEqProofs
      refine hQ _ _ _ ?_
      simp -implicitDefEqProofs [isLow, isName, h]
    · simp -implicitDefEqProofs
      refine CALL_pure (pilasterref01_Small_call c.toNat) (by simp) (by simp) (by simp [kdAV, cnAV, cnCells_eq, kdCells_eq, strRows, Kd.l]) ?_
      cases h2 : cls c.toNat == 1
      · simp -implicitDefEqProofs
        refine hQ _ _ _ ?_
        simp -implicitDefEqProofs [isLow, isName, h, h2]
      · simp -implicitDefEqProofs
        refine CALL_pure (pilasterref01_Keys_call) (by simp) (by simp) (by simp [kdAV, cnAV, cnCells_eq, kdCells_eq, strRows, Kd.l]) ?_
        simp -implicitDefEqProofs
        refine CALL_pure (pilasterref01_Find_call keyWords (c :: s)) (by simp) (by simp) (by simp [kdAV, cnAV, cnCells_eq, kdCells_eq, strRows, Kd.l]) ?_
        simp -implicitDefEqProofs
        refine hQ _ _ _ ?_
        simp -implicitDefEqProofs [isLow, isName, h, h2, idx_any]
/-- The beginnings of labels. -/
def pre (k : Int) : List UInt8 := if k = 1 then [118, 97, 108, 46] else if k = 2 then [116, 121, 112, 101, 46] else if k = 3 then [99, 111, 110, 46] else if k = 4 then [109, 111, 100, 46] else if k = 5 then [115, 105, 103, 46] else []
def fitsS (k : Int) (s : List UInt8) : Bool := if k = 1 ∨ k = 2 then isLow s else isName s 2
theorem fitsS_nil (k : Int) : fitsS k [] = false := by unfold fitsS; split <;> simp [isLow_nil, isUp_nil]
def splitK (s : List UInt8) : List Int → Option (Int × List UInt8)
  | [] => none
  | k :: ks => if hasPre s (pre k) && fitsS k (s.drop (pre k).length) then some (k, s.drop (pre k).length) else splitK s ks
def splitS (s : List UInt8) : Option (Int × List UInt8) := splitK s [1, 2, 3, 4, 5]
theorem ident_prefix_call (k : Int) : HCall Go.Proofs.Tryz.prog i_ident_prefix [.int .i64 k] [] (.str (pre k)) [] := by
  refine HCall.go mixed ok_ident_prefix (by simp) fun hfit Q hQ => ?_
  clear hfit
  simp -implicitDefEqProofs [c_ident_prefix, beq_dec]
  repeat' (first | (refine COND_split (fun hb => ?_) (fun hb => ?_) <;> simp only [decide_eq_true_eq, decide_eq_false_iff_not] at hb <;> simp -implicitDefEqProofs [hb, beq_dec]))
  all_goals (refine hQ _ _ _ ?_; simp -implicitDefEqProofs [*, pre])
theorem ident_fits_call (k : Int) (s : List UInt8) : HCall Go.Proofs.Tryz.prog i_ident_fits [.int .i64 k, .str s] [] (.bool (fitsS k s)) [] := by
  refine HCall.go mixed ok_ident_fits (by simp) fun hfit Q hQ => ?_
  clear hfit
  by_cases h1 : k = 1
  · subst h1
    simp -implicitDefEqProofs [c_ident_fits]
    refine CALL_pure (ident_IsLower_call s) (by simp) (by simp) (by simp [kdAV, cnAV, cnCells_eq, kdCells_eq, strRows, Kd.l]) ?_
    simp -implicitDefEqProofs
    refine hQ _ _ _ ?_
    simp -implicitDefEqProofs [fitsS]
  by_cases h2 : k = 2
  · subst h2
    simp -implicitDefEqProofs [c_ident_fits]
    refine CALL_pure (ident_IsLower_call s) (by simp) (by simp) (by simp [kdAV, cnAV, cnCells_eq, kdCells_eq, strRows, Kd.l]) ?_
    simp -implicitDefEqProofs
    refine hQ _ _ _ ?_
    simp -implicitDefEqProofs [fitsS]
  · simp -implicitDefEqProofs [c_ident_fits, beq_dec, h1, h2]
    refine CALL_pure (ident_IsUpper_call s) (by simp) (by simp) (by simp [kdAV, cnAV, cnCells_eq, kdCells_eq, strRows, Kd.l]) ?_
    simp -implicitDefEqProofs
    refine hQ _ _ _ ?_
    simp -implicitDefEqProofs [fitsS, h1, h2]
theorem pilasterref01_Fits_call (k : Int) (s : List UInt8) : HCall Go.Proofs.Tryz.prog i_pilasterref01_Fits [.int .i64 k, .str s] [] (.bool (fitsS k s)) [] := by
  refine HCall.go mixed ok_pilasterref01_Fits (by simp) fun hfit Q hQ => ?_
  clear hfit
  by_cases h1 : k = 1
  · subst h1
    simp -implicitDefEqProofs [c_pilasterref01_Fits]
    refine CALL_pure (pilasterref01_IsLower_call s) (by simp) (by simp) (by simp [kdAV, cnAV, cnCells_eq, kdCells_eq, strRows, Kd.l]) ?_
    simp -implicitDefEqProofs
    refine hQ _ _ _ ?_
    simp -implicitDefEqProofs [fitsS]
  by_cases h2 : k = 2
  · subst h2
    simp -implicitDefEqProofs [c_pilasterref01_Fits]
    refine CALL_pure (pilasterref01_IsLower_call s) (by simp) (by simp) (by simp [kdAV, cnAV, cnCells_eq, kdCells_eq, strRows, Kd.l]) ?_
    simp -implicitDefEqProofs
    refine hQ _ _ _ ?_
    simp -implicitDefEqProofs [fitsS]
  · simp -implicitDefEqProofs [c_pilasterref01_Fits, beq_dec, h1, h2]
    refine CALL_pure (pilasterref01_IsUpper_call s) (by simp) (by simp) (by simp [kdAV, cnAV, cnCells_eq, kdCells_eq, strRows, Kd.l]) ?_
    simp -implicitDefEqProofs
    refine hQ _ _ _ ?_
    simp -implicitDefEqProofs [fitsS, h1, h2]
def splitP (o : Option (Int × List UInt8)) : AV := match o with | some (k, s) => .tup [.int .i64 k, .str s, .int .i64 0] | none => .tup [.int .i64 0, .str [], .int .i64 3]
def splitR (o : Option (Int × List UInt8)) : AV := match o with | some (k, s) => .tup [.int .i64 k, .str s] | none => .tup [.int .i64 0, .str []]
theorem splitP_scoped (o : Option (Int × List UInt8)) (n : Nat) : (splitP o).inScope n = true := by unfold splitP; split <;> simp
theorem splitR_scoped (o : Option (Int × List UInt8)) (n : Nat) : (splitR o).inScope n = true := by unfold splitR; split <;> simp
theorem drop_ks {k : Nat} (h1 : 1 ≤ k) (h2 : k ≤ 5) : ([1, 2, 3, 4, 5] : List Int).drop (k - 1) = (k : Int) :: ([1, 2, 3, 4, 5] : List Int).drop k := by
  obtain rfl | rfl | rfl | rfl | rfl : k = 1 ∨ k = 2 ∨ k = 3 ∨ k = 4 ∨ k = 5 := by omega
  all_goals rfl
theorem ident_Split_call (s : List UInt8) : HCall Go.Proofs.Tryz.prog i_ident_Split [.str s] [] (splitP (splitS s)) [] := by
  refine HCall.go mixed ok_ident_Split (by simp) fun hfit Q hQ => ?_
  clear hfit
  simp -implicitDefEqProofs [c_ident_Split]
  refine WP_loop (AWp.loopI [] (fun n f h G => ∃ k : Nat, 1 ≤ k ∧ k + n = 6 ∧ f 5 = .int .i64 k ∧ splitK s (([1, 2, 3, 4, 5] : List Int).drop (k - 1)) = splitS s) (5) (by simp) ⟨1, by simp, by simp, rfl, by simp [splitS]⟩ ?_)
  rintro n f h G ⟨k, hk1, hk, h5, hs⟩
  refine AWp.run mixed fun Q2 hQ2 => ?_
  simp -implicitDefEqProofs [AC.dsts, aoDsts, updT, updH, h5]
  by_cases hlt : k ≤ 5
  · have hlt' : (k : Int) ≤ 5 := by omega
    rw [drop_ks hk1 hlt, splitK] at hs
    simp -implicitDefEqProofs [hlt, hlt']
    refine CALL_pure (ident_prefix_call k) (by simp) (by simp) (by simp [kdAV, cnAV, cnCells_eq, kdCells_eq, strRows, Kd.l]) ?_
    simp -implicitDefEqProofs
    refine CALL_pure (strings_CutPrefix_call s (pre k)) (by simp) (cutPre_scoped s _ 0) (by simp) ?_
    cases hp : hasPre s (pre k)
    · rw [hp] at hs
      simp -implicitDefEqProofs [cutPre, hp, wrap_i64 (n := (k : Int) + 1) (by omega) (by omega)]
      refine hQ2 _ _ _ (loop_next (n - 1) (h) rfl (by omega) (by simp -implicitDefEqProofs [AC.dsts, aoDsts, updT, slots]) ?_)
      exact ⟨k + 1, by omega, by omega, by simp [slots], by simpa using hs⟩
    · rw [hp] at hs
      simp -implicitDefEqProofs [cutPre, hp]
      refine CALL_pure (ident_fits_call k (s.drop (pre k).length)) (by simp) (by simp) (by simp [kdAV, cnAV, cnCells_eq, kdCells_eq, strRows, Kd.l]) ?_
      cases hf : fitsS k (s.drop (pre k).length)
      · rw [hf] at hs
        simp -implicitDefEqProofs [wrap_i64 (n := (k : Int) + 1) (by omega) (by omega)]
        refine hQ2 _ _ _ (loop_next (n - 1) (h) rfl (by omega) (by simp -implicitDefEqProofs [AC.dsts, aoDsts, updT, slots]) ?_)
        exact ⟨k + 1, by omega, by omega, by simp [slots], by simpa using hs⟩
      · rw [hf] at hs
        have e : splitS s = some ((k : Int), s.drop (pre k).length) := by rw [← hs]; simp
        simp -implicitDefEqProofs
        refine hQ2 _ _ _ (loop_ret ?_)
        show KR _ _ Q _ _
        simp -implicitDefEqProofs
        refine hQ _ _ _ ?_
        simp -implicitDefEqProofs [e, splitP]
  · have hlt' : ¬ (k : Int) ≤ 5 := by omega
    have e : splitS s = none := by rw [← hs, List.drop_eq_nil_of_le (by simp; omega)]; rfl
    simp -implicitDefEqProofs [hlt']
    refine hQ2 _ _ _ (loop_exit ?_)
    show KE _ 0 _ Q _ _
    simp -implicitDefEqProofs
    refine hQ _ _ _ ?_
    simp -implicitDefEqProofs [e, splitP]
theorem pilasterref01_Heads_call : HCall Go.Proofs.Tryz.prog i_pilasterref01_Heads [] [] (.sl .none (strRows [pre 0, pre 1, pre 2, pre 3, pre 4, pre 5])) [] := by
  refine HCall.go mixed ok_pilasterref01_Heads (by simp) fun hfit Q hQ => ?_
  clear hfit
  simp -implicitDefEqProofs [c_pilasterref01_Heads, List.replicate]
  refine hQ _ _ _ ?_
  simp -implicitDefEqProofs [pre, strRows]
theorem heads_get {k : Nat} (h2 : k ≤ 5) : (strRows [pre 0, pre 1, pre 2, pre 3, pre 4, pre 5])[k]? = some [.str (pre k)] := by
  obtain rfl | rfl | rfl | rfl | rfl | rfl : k = 0 ∨ k = 1 ∨ k = 2 ∨ k = 3 ∨ k = 4 ∨ k = 5 := by omega
  all_goals rfl
theorem heads_len : (strRows [pre 0, pre 1, pre 2, pre 3, pre 4, pre 5]).length = 6 := rfl
theorem pilasterref01_Split_call (s : List UInt8) : HCall Go.Proofs.Tryz.prog i_pilasterref01_Split [.str s] [] (splitR (splitS s)) [] := by
  refine HCall.go mixed ok_pilasterref01_Split (by simp) fun hfit Q hQ => ?_
  clear hfit
  simp -implicitDefEqProofs [c_pilasterref01_Split]
  refine CALL_pure (pilasterref01_Heads_call) (by simp) (by simp) (by simp [kdAV, cnAV, cnCells_eq, kdCells_eq, strRows, Kd.l]) ?_
  simp -implicitDefEqProofs
  refine WP_loop (AWp.loopI [] (fun n f h G => ∃ k : Nat, 1 ≤ k ∧ k + n = 6 ∧ f 5 = .int .i64 k ∧ splitK s (([1, 2, 3, 4, 5] : List Int).drop (k - 1)) = splitS s) (5) (by simp) ⟨1, by simp, by simp, rfl, by simp [splitS]⟩ ?_)
  rintro n f h G ⟨k, hk1, hk, h5, hs⟩
  refine AWp.run mixed fun Q2 hQ2 => ?_
  simp -implicitDefEqProofs [AC.dsts, aoDsts, updT, updH, h5, heads_len]
  by_cases hlt : k ≤ 5
  · have hlt' : (k : Int) < 6 := by omega
    have hg := heads_get hlt
    rw [drop_ks hk1 hlt, splitK] at hs
    simp -implicitDefEqProofs [hlt', hg]
    refine WP_draw (by rfl) ?_
    by_cases hl : (pre k).length < s.length
    · have hl2 : (pre k).length ≤ s.length := by omega
      have hl' : ((pre k).length : Int) < s.length := by omega
      have hl3 : ((pre k).length : Int) ≤ s.length := by omega
      simp -implicitDefEqProofs [hl', hl, hl2, hl3, hg]
      cases hp : s.take (pre k).length == pre k
      · have hp2 : hasPre s (pre k) = false := by simp [hasPre, hp]
        rw [hp2] at hs
        simp -implicitDefEqProofs [wrap_i64 (n := (k : Int) + 1) (by omega) (by omega)]
        refine hQ2 _ _ _ (loop_next (n - 1) (h) rfl (by omega) (by simp -implicitDefEqProofs [AC.dsts, aoDsts, updT, slots]) ?_)
        exact ⟨k + 1, by omega, by omega, by simp [slots], by simpa using hs⟩
      · have hp2 : hasPre s (pre k) = true := by simp [hasPre, hp, hl2]
        rw [hp2] at hs
        simp -implicitDefEqProofs [hl2, hl3]
        refine DCALL_pure (pilasterref01_Fits_call k (s.drop (pre k).length)) (by simp) (by simp) (by simp [kdAV, cnAV, cnCells_eq, kdCells_eq, strRows, Kd.l]) ?_
        cases hf : fitsS k (s.drop (pre k).length)
        · rw [hf] at hs
          simp -implicitDefEqProofs [wrap_i64 (n := (k : Int) + 1) (by omega) (by omega)]
          refine hQ2 _ _ _ (loop_next (n - 1) (h) rfl (by omega) (by simp -implicitDefEqProofs [AC.dsts, aoDsts, updT, slots]) ?_)
          exact ⟨k + 1, by omega, by omega, by simp [slots], by simpa using hs⟩
        · rw [hf] at hs
          have e : splitS s = some ((k : Int), s.drop (pre k).length) := by rw [← hs]; simp
          simp -implicitDefEqProofs
          refine WP_draw (by rfl) ?_
          simp -implicitDefEqProofs [hl2, hl3]
          refine hQ2 _ _ _ (loop_ret ?_)
          show KR _ _ Q _ _
          simp -implicitDefEqProofs
          refine hQ _ _ _ ?_
          simp -implicitDefEqProofs [e, splitR]
    · have hl' : ¬ ((pre k).length : Int) < s.length := by omega
      have hp2 : (hasPre s (pre k) && fitsS k (s.drop (pre k).length)) = false := by
        rw [List.drop_eq_nil_of_le (by omega), fitsS_nil]; simp
      rw [hp2] at hs
      simp -implicitDefEqProofs [hl', hg, wrap_i64 (n := (k : Int) + 1) (by omega) (by omega)]
      refine hQ2 _ _ _ (loop_next (n - 1) (h) rfl (by omega) (by simp -implicitDefEqProofs [AC.dsts, aoDsts, updT, slots]) ?_)
      exact ⟨k + 1, by omega, by omega, by simp [slots], by simpa using hs⟩
  · have hlt' : ¬ (k : Int) < 6 := by omega
    have e : splitS s = none := by rw [← hs, List.drop_eq_nil_of_le (by simp; omega)]; rfl
    simp -implicitDefEqProofs [hlt']
    refine hQ2 _ _ _ (loop_exit ?_)
    show KE _ 0 _ Q _ _
    simp -implicitDefEqProofs
    refine hQ _ _ _ ?_
    simp -implicitDefEqProofs [e, splitR]
end Go.Proofs.YtblbepjnkehoaaaGreatDoor
/- Numbers and names of constants: both sides. -/
namespace Go.Proofs.YtblbepjnkehoaaaGreatDoor
open Go
attribute [local simp] astep aev putA guardA start AV.cells AV.undef takeCells splice intBin strBin abin AV.isCell loadV fillR fillA
attribute [local simp] fin aRes aResL aRes1 AV.strip stripL stripE AV.inScope scopedL scopedE scopedH
set_option maxRecDepth 10000
set_option linter.unusedSimpArgs false
attribute [local simp] optInt
theorem wrap_u8 {n : Int} (h1 : 0 ≤ n) (h2 : n ≤ 255) : IntKind.u8.wrap n = n := by
  unfold IntKind.wrap IntKind.signed IntKind.bits; simp; omega
theorem ident_Number_call (s : List UInt8) : HCall Go.Proofs.Tryz.prog i_ident_Number [.str s] [] (numAV (numRes s)) [] := by
  refine HCall.go mixed ok_ident_Number (by simp) fun hfit Q hQ => ?_
  have hln : s.length ≤ 1073741824 := by simpa [fitsL, AV.fits, maxL] using hfit
  clear hfit
  simp -implicitDefEqProofs [c_ident_Number]
  by_cases h1 : s = []
  · have e : numRes s = (0, 3) := by simp [numRes, h1]
    simp -implicitDefEqProofs [h1]
    refine hQ _ _ _ ?_
    simp -implicitDefEqProofs [e, numAV]
  have hpos : 0 < s.length := List.length_pos_iff.2 h1
  have hhd := headD_get hpos
  have hne : (s == ([] : List UInt8)) = false := by simpa using h1
  have hne2 : s.isEmpty = false := by simpa using h1
  by_cases h2 : 1 < s.length ∧ s.headD 0 = 48
  · have e : numRes s = (0, 3) := by simp only [numRes, h2, and_self, or_true, if_true]
    have h2' : (1 : Int) < s.length := by omega
    have h3 : s[0] = 48 := by rw [← hhd]; exact h2.2
    simp -implicitDefEqProofs [hne, hne2, h2', hpos, h3]
    refine hQ _ _ _ ?_
    simp -implicitDefEqProofs [e, numAV]
  have key : numRes s = if s.all isDig = true then (if 4503599627370496 < dval 0 s then (0, 6) else ((dval 0 s : Int), 0)) else (0, 3) := by
    rw [numRes, if_neg (by rintro (h | h); exact h1 h; exact h2 h)]
  have hgo : ∀ b : Bool, ((1 : Int) < s.length) → b = ((s[0].toNat : Int) == 48) → b = false := by
    intro b hb e
    subst e
    have : ¬ s[0] = 48 := fun h => h2 ⟨by omega, by rw [hhd]; exact h⟩
    simp only [beq_eq_false_iff_ne, ne_eq]
    intro h
    apply this
    apply UInt8.toNat_inj.1
    show s[0].toNat = 48
    omega
  simp -implicitDefEqProofs [hne, hne2]
  by_cases h4 : (1 : Int) < s.length
  · have h5 := hgo _ h4 rfl
    simp -implicitDefEqProofs [h4, hpos, h5]
    refine WP_loop (AWp.loopI [] (fun n f h G => ∃ k : Nat, k + n = s.length ∧ f 23 = .int .i64 k ∧ ((s.drop k).all isDig) = s.all isDig) (s.length) (by simp) ⟨0, by simp, rfl, by simp⟩ ?_)
    rintro n f h G ⟨k, hk, h23, hs⟩
    refine AWp.run mixed fun Q2 hQ2 => ?_
    simp -implicitDefEqProofs [AC.dsts, aoDsts, updT, updH, h23]
    by_cases hlt : k < s.length
    · have hd := List.drop_eq_getElem_cons hlt
      simp -implicitDefEqProofs [hlt]
      refine CALL_pure (ident_of_call s[k].toNat) (by simp) (by simp) (by simp [kdAV, cnAV, cnCells_eq, kdCells_eq, strRows, Kd.l]) ?_
      cases hc : cls s[k].toNat == 3
      · have e : numRes s = (0, 3) := by rw [key, if_neg (by rw [← hs, hd, List.all_cons, isDig, hc]; simp)]
        simp -implicitDefEqProofs [bne, hc]
        refine hQ2 _ _ _ (loop_ret ?_)
        show KR _ _ Q _ _
        simp -implicitDefEqProofs
        refine hQ _ _ _ ?_
        simp -implicitDefEqProofs [e, numAV]
      · simp -implicitDefEqProofs [bne, hc, wrap_i64 (n := (k : Int) + 1) (by omega) (by omega)]
        refine hQ2 _ _ _ (loop_next (n - 1) (h) rfl (by omega) (by simp -implicitDefEqProofs [AC.dsts, aoDsts, updT, slots]) ?_)
        refine ⟨k + 1, by omega, by simp [slots], ?_⟩
        rw [← hs, hd, List.all_cons, isDig, hc]; simp
    · have hall : s.all isDig = true := by rw [← hs, List.drop_eq_nil_of_le (by omega)]; rfl
      rw [if_pos hall] at key
      simp -implicitDefEqProofs [hlt]
      refine hQ2 _ _ _ (loop_exit ?_)
      show KE _ 0 _ Q _ _
      simp -implicitDefEqProofs
      refine CALL_pure (strconv_Atoi_call s h1 hall) (by simp) (atoiRes_scoped s 0) (by simp) ?_
      by_cases h6 : dval 0 s < 9223372036854775808
      · by_cases h7 : 4503599627370496 < dval 0 s
        · have h7' : (4503599627370496 : Int) < dval 0 s := by omega
          rw [if_pos h7] at key
          simp -implicitDefEqProofs [atoiRes, h6, isNil, h7', h7]
          refine hQ _ _ _ ?_
          simp -implicitDefEqProofs [key, numAV]
        · have h7' : ¬ (4503599627370496 : Int) < dval 0 s := by omega
          rw [if_neg h7] at key
          simp -implicitDefEqProofs [atoiRes, h6, isNil, h7', h7]
          refine hQ _ _ _ ?_
          simp -implicitDefEqProofs [key, numAV]
      · rw [if_pos (by omega)] at key
        simp -implicitDefEqProofs [atoiRes, h6, isNil]
        refine hQ _ _ _ ?_
        simp -implicitDefEqProofs [key, numAV]
  · simp -implicitDefEqProofs [h4]
    refine WP_loop (AWp.loopI [] (fun n f h G => ∃ k : Nat, k + n = s.length ∧ f 23 = .int .i64 k ∧ ((s.drop k).all isDig) = s.all isDig) (s.length) (by simp) ⟨0, by simp, rfl, by simp⟩ ?_)
    rintro n f h G ⟨k, hk, h23, hs⟩
    refine AWp.run mixed fun Q2 hQ2 => ?_
    simp -implicitDefEqProofs [AC.dsts, aoDsts, updT, updH, h23]
    by_cases hlt : k < s.length
    · have hd := List.drop_eq_getElem_cons hlt
      simp -implicitDefEqProofs [hlt]
      refine CALL_pure (ident_of_call s[k].toNat) (by simp) (by simp) (by simp [kdAV, cnAV, cnCells_eq, kdCells_eq, strRows, Kd.l]) ?_
      cases hc : cls s[k].toNat == 3
      · have e : numRes s = (0, 3) := by rw [key, if_neg (by rw [← hs, hd, List.all_cons, isDig, hc]; simp)]
        simp -implicitDefEqProofs [bne, hc]
        refine hQ2 _ _ _ (loop_ret ?_)
        show KR _ _ Q _ _
        simp -implicitDefEqProofs
        refine hQ _ _ _ ?_
        simp -implicitDefEqProofs [e, numAV]
      · simp -implicitDefEqProofs [bne, hc, wrap_i64 (n := (k : Int) + 1) (by omega) (by omega)]
        refine hQ2 _ _ _ (loop_next (n - 1) (h) rfl (by omega) (by simp -implicitDefEqProofs [AC.dsts, aoDsts, updT, slots]) ?_)
        refine ⟨k + 1, by omega, by simp [slots], ?_⟩
        rw [← hs, hd, List.all_cons, isDig, hc]; simp
    · have hall : s.all isDig = true := by rw [← hs, List.drop_eq_nil_of_le (by omega)]; rfl
      rw [if_pos hall] at key
      simp -implicitDefEqProofs [hlt]
      refine hQ2 _ _ _ (loop_exit ?_)
      show KE _ 0 _ Q _ _
      simp -implicitDefEqProofs
      refine CALL_pure (strconv_Atoi_call s h1 hall) (by simp) (atoiRes_scoped s 0) (by simp) ?_
      by_cases h6 : dval 0 s < 9223372036854775808
      · by_cases h7 : 4503599627370496 < dval 0 s
        · have h7' : (4503599627370496 : Int) < dval 0 s := by omega
          rw [if_pos h7] at key
          simp -implicitDefEqProofs [atoiRes, h6, isNil, h7', h7]
          refine hQ _ _ _ ?_
          simp -implicitDefEqProofs [key, numAV]
        · have h7' : ¬ (4503599627370496 : Int) < dval 0 s := by omega
          rw [if_neg h7] at key
          simp -implicitDefEqProofs [atoiRes, h6, isNil, h7', h7]
          refine hQ _ _ _ ?_
          simp -implicitDefEqProofs [key, numAV]
      · rw [if_pos (by omega)] at key
        simp -implicitDefEqProofs [atoiRes, h6, isNil]
        refine hQ _ _ _ ?_
        simp -implicitDefEqProofs [key, numAV]
theorem dval_snoc (acc : Nat) (l : List UInt8) (c : UInt8) : dval acc (l ++ [c]) = 10 * dval acc l + (c.toNat - 48) := by simp only [dval, List.foldl_append, List.foldl_cons, List.foldl_nil]
theorem take_snoc {α : Type} (s : List α) (k : Nat) (h : k < s.length) : s.take (k + 1) = s.take k ++ [s[k]] := by
  rw [List.take_add_one, List.getElem?_eq_getElem h]; rfl
theorem dval_take (s : List UInt8) (k : Nat) (h : k < s.length) : dval 0 (s.take (k + 1)) = 10 * dval 0 (s.take k) + (s[k].toNat - 48) := by
  rw [← dval_snoc, take_snoc s k h]
theorem pilasterref01_Number_call (s : List UInt8) : HCall Go.Proofs.Tryz.prog i_pilasterref01_Number [.str s] [] (numAV (numRes s)) [] := by
  refine HCall.go mixed ok_pilasterref01_Number (by simp) fun hfit Q hQ => ?_
  have hln : s.length ≤ 1073741824 := by simpa [fitsL, AV.fits, maxL] using hfit
  clear hfit
  simp -implicitDefEqProofs [c_pilasterref01_Number]
  by_cases h1 : s = []
  · have e : numRes s = (0, 3) := by simp [numRes, h1]
    simp -implicitDefEqProofs [h1]
    refine hQ _ _ _ ?_
    simp -implicitDefEqProofs [e, numAV]
  have hpos : 0 < s.length := List.length_pos_iff.2 h1
  have hhd := headD_get hpos
  have hne : ((s.length : Int) == 0) = false := by simp; exact h1
  by_cases h2 : 1 < s.length ∧ s.headD 0 = 48
  · have e : numRes s = (0, 3) := by simp only [numRes, h2, and_self, or_true, if_true]
    have h2' : (1 : Int) < s.length := by omega
    have h3 : s[0] = 48 := by rw [← hhd]; exact h2.2
    simp -implicitDefEqProofs [h1, hne, h2', hpos, h3]
    refine hQ _ _ _ ?_
    simp -implicitDefEqProofs [e, numAV]
  have key : numRes s = if s.all isDig = true then (if 4503599627370496 < dval 0 s then (0, 6) else ((dval 0 s : Int), 0)) else (0, 3) := by
    rw [numRes, if_neg (by rintro (h | h); exact h1 h; exact h2 h)]
  have hgo : (1 : Int) < s.length → ((s[0].toNat : Int) == 48) = false := by
    intro hb
    simp only [beq_eq_false_iff_ne, ne_eq]
    intro h
    refine h2 ⟨by omega, ?_⟩
    rw [hhd]
    apply UInt8.toNat_inj.1
    show s[0].toNat = 48
    omega
  by_cases h4 : (1 : Int) < s.length
  case' pos => have h5 := hgo h4
  all_goals
    first | simp -implicitDefEqProofs [h1, hne, h4, hpos, h5] | simp -implicitDefEqProofs [h1, hne, h4]
    refine WP_loop (AWp.loopI [] (fun n f h G => ∃ k : Nat, k + n = s.length ∧ f 5 = .int .i64 k ∧ (∃ m : Nat, f 4 = .int .i64 (m : Int) ∧ m = min 4503599627370497 (dval 0 (s.take k))) ∧ ((s.drop k).all isDig) = s.all isDig) (s.length) (by simp) ⟨0, by simp, rfl, ⟨0, rfl, by simp [dval_nil]⟩, by simp⟩ ?_)
    rintro n f h G ⟨k, hk, h5', ⟨m, h4', hm⟩, hs⟩
    refine AWp.run mixed fun Q2 hQ2 => ?_
    simp -implicitDefEqProofs [AC.dsts, aoDsts, updT, updH, h5', h4']
    by_cases hlt : k < s.length
    · have hd := List.drop_eq_getElem_cons hlt
      have hdv := dval_take s k hlt
      simp -implicitDefEqProofs [hlt]
      refine CALL_pure (pilasterref01_Digit_call s[k].toNat) (by simp) (by simp) (by simp [kdAV, cnAV, cnCells_eq, kdCells_eq, strRows, Kd.l]) ?_
      cases hc : cls s[k].toNat == 3
      · have e : numRes s = (0, 3) := by rw [key, if_neg (by rw [← hs, hd, List.all_cons, isDig, hc]; simp)]
        simp -implicitDefEqProofs
        refine hQ2 _ _ _ (loop_ret ?_)
        show KR _ _ Q _ _
        simp -implicitDefEqProofs
        refine hQ _ _ _ ?_
        simp -implicitDefEqProofs [e, numAV]
      · have hcd := (isDig_iff s[k]).1 hc
        have hm1 : m ≤ 4503599627370497 := by omega
        have e0 : IntKind.u8.wrap ((s[k].toNat : Int) - 48) = ((s[k].toNat - 48 : Nat) : Int) := by rw [wrap_u8 (by omega) (by omega)]; omega
        have e1 : IntKind.i64.wrap (10 * (m : Int)) = 10 * (m : Int) := wrap_i64 (by omega) (by omega)
        have e2 : IntKind.i64.wrap ((s[k].toNat - 48 : Nat) : Int) = ((s[k].toNat - 48 : Nat) : Int) := wrap_i64 (by omega) (by omega)
        have e3 : IntKind.i64.wrap (10 * (m : Int) + ((s[k].toNat - 48 : Nat) : Int)) = 10 * (m : Int) + ((s[k].toNat - 48 : Nat) : Int) := wrap_i64 (by omega) (by omega)
        simp -implicitDefEqProofs [hlt, e0, e1, e2, e3, minA, minF]
        simp -implicitDefEqProofs [wrap_i64 (n := (k : Int) + 1) (by omega) (by omega)]
        refine hQ2 _ _ _ (loop_next (n - 1) (h) rfl (by omega) (by simp -implicitDefEqProofs [AC.dsts, aoDsts, updT, slots]) ?_)
        refine ⟨k + 1, by omega, by simp [slots], ⟨min 4503599627370497 (10 * m + (s[k].toNat - 48)), ?_, ?_⟩, ?_⟩
        · simp -implicitDefEqProofs [slots]
          split <;> omega
        · rw [hdv]; omega
        · rw [← hs, hd, List.all_cons, isDig, hc]; simp
    · have hall : s.all isDig = true := by rw [← hs, List.drop_eq_nil_of_le (by omega)]; rfl
      have htk : s.take k = s := List.take_of_length_le (by omega)
      rw [if_pos hall] at key
      rw [htk] at hm
      by_cases h7 : 4503599627370496 < dval 0 s
      · rw [if_pos h7] at key
        have h7' : (4503599627370496 : Int) < (m : Int) := by omega
        have h8 : 4503599627370496 < m := by omega
        simp -implicitDefEqProofs [hlt]
        refine hQ2 _ _ _ (loop_exit ?_)
        show KE _ 0 _ Q _ _
        simp -implicitDefEqProofs [h7', h8]
        refine hQ _ _ _ ?_
        simp -implicitDefEqProofs [key, numAV]
      · rw [if_neg h7] at key
        have h8 : m = dval 0 s := by omega
        subst h8
        have h7' : ¬ (4503599627370496 : Int) < (dval 0 s : Int) := by omega
        simp -implicitDefEqProofs [hlt]
        refine hQ2 _ _ _ (loop_exit ?_)
        show KE _ 0 _ Q _ _
        simp -implicitDefEqProofs [h7', h7]
        refine hQ _ _ _ ?_
        simp -implicitDefEqProofs [key, numAV]
def constS (s : List UInt8) : Bool := decide (s.length ≤ 48) && ((cutDot s).2.2 && (isName (cutDot s).1 2 && ((numRes (cutDot s).2.1).2 == 0)))
theorem tycon_constant_call (s : List UInt8) : HCall Go.Proofs.Tryz.prog i_tycon_constant [.str s] [] (.bool (constS s)) [] := by
  refine HCall.go mixed ok_tycon_constant (by simp) fun hfit Q hQ => ?_
  clear hfit
  simp -implicitDefEqProofs [c_tycon_constant]
  refine CALL_pure (strings_Cut_call s) (by simp) (by simp) (by simp [kdAV, cnAV, cnCells_eq, kdCells_eq, strRows, Kd.l]) ?_
  simp -implicitDefEqProofs
  refine CALL_pure (ident_Number_call (cutDot s).2.1) (by simp) (numAV_scoped _ 0) (by simp) ?_
  simp -implicitDefEqProofs [numAV]
  cases h1 : (cutDot s).2.2
  · simp -implicitDefEqProofs
    refine hQ _ _ _ ?_
    simp -implicitDefEqProofs [constS, h1]
  · by_cases h2 : s.length ≤ 48
    · have h2' : (s.length : Int) ≤ 48 := by omega
      simp -implicitDefEqProofs [h2, h2']
      refine CALL_pure (ident_IsUpper_call (cutDot s).1) (by simp) (by simp) (by simp [kdAV, cnAV, cnCells_eq, kdCells_eq, strRows, Kd.l]) ?_
      cases h3 : isName (cutDot s).1 2
      · simp -implicitDefEqProofs
        refine hQ _ _ _ ?_
        simp -implicitDefEqProofs [constS, h1, h2, h3]
      · simp -implicitDefEqProofs
        refine hQ _ _ _ ?_
        simp -implicitDefEqProofs [constS, h1, h2, h3]
    · have h2' : ¬ (s.length : Int) ≤ 48 := by omega
      simp -implicitDefEqProofs [h2, h2']
      refine hQ _ _ _ ?_
      simp -implicitDefEqProofs [constS, h1, h2]
theorem cutDot_cons (c : UInt8) (l : List UInt8) : cutDot (c :: l) = if c == 46 then ([], l, true) else (c :: (cutDot l).1, (cutDot l).2) := rfl
theorem pilasterref09_ConstName_call (s : List UInt8) : HCall Go.Proofs.Tryz.prog i_pilasterref09_ConstName [.str s] [] (.bool (constS s)) [] := by
  refine HCall.go mixed ok_pilasterref09_ConstName (by simp) fun hfit Q hQ => ?_
  have hln : s.length ≤ 1073741824 := by simpa [fitsL, AV.fits, maxL] using hfit
  clear hfit
  simp -implicitDefEqProofs [c_pilasterref09_ConstName]
  by_cases h2 : s.length ≤ 48
  case neg =>
    have h2' : (48 : Int) < s.length := by omega
    simp -implicitDefEqProofs [h2']
    refine hQ _ _ _ ?_
    simp -implicitDefEqProofs [constS, h2]
  have h2' : ¬ (48 : Int) < s.length := by omega
  simp -implicitDefEqProofs [h2']
  refine WP_loop (AWp.loopI [] (fun n f h G => ∃ k : Nat, k + n = s.length ∧ f 3 = .int .i64 k ∧ cutDot s = (s.take k ++ (cutDot (s.drop k)).1, (cutDot (s.drop k)).2)) (s.length) (by simp) ⟨0, by simp, rfl, by simp⟩ ?_)
  rintro n f h G ⟨k, hk, h3, hs⟩
  refine AWp.run mixed fun Q2 hQ2 => ?_
  simp -implicitDefEqProofs [AC.dsts, aoDsts, updT, updH, h3]
  by_cases hlt : k < s.length
  · have hd := List.drop_eq_getElem_cons hlt
    rw [hd, cutDot_cons] at hs
    simp -implicitDefEqProofs [hlt]
    cases hc : s[k] == 46
    · rw [hc] at hs
      have hc2 : ((s[k].toNat : Int) == 46) = false := by
        simp only [beq_eq_false_iff_ne, ne_eq] at hc ⊢
        intro h
        apply hc
        apply UInt8.toNat_inj.1
        show s[k].toNat = 46
        omega
      simp -implicitDefEqProofs [hc2, wrap_i64 (n := (k : Int) + 1) (by omega) (by omega)]
      refine hQ2 _ _ _ (loop_next (n - 1) (h) rfl (by omega) (by simp -implicitDefEqProofs [AC.dsts, aoDsts, updT, slots]) ?_)
      refine ⟨k + 1, by omega, by simp [slots], ?_⟩
      rw [hs, take_snoc s k hlt]
      simp only [Bool.false_eq_true, if_false, List.append_assoc, List.cons_append, List.nil_append]
    · rw [hc] at hs
      simp only [if_true, List.append_nil] at hs
      have hc2 : s[k] = 46 := by simpa using hc
      have e1 : k + 1 ≤ s.length := hlt
      have e2 : (k : Int) + 1 ≤ s.length := by omega
      have e3 : k ≤ s.length := by omega
      simp -implicitDefEqProofs [hc2, wrap_i64 (n := (k : Int) + 1) (by omega) (by omega), e1, e2]
      refine CALL_pure (pilasterref01_Number_call (s.drop (k + 1))) (by simp) (numAV_scoped _ 0) (by simp) ?_
      simp -implicitDefEqProofs [numAV, e3]
      refine CALL_pure (pilasterref01_IsUpper_call (s.take k)) (by simp) (by simp) (by simp [kdAV, cnAV, cnCells_eq, kdCells_eq, strRows, Kd.l]) ?_
      cases h4 : isName (s.take k) 2
      · have e : constS s = false := by simp [constS, hs, h4]
        simp -implicitDefEqProofs
        refine hQ2 _ _ _ (loop_ret ?_)
        show KR _ _ Q _ _
        simp -implicitDefEqProofs
        refine hQ _ _ _ ?_
        simp -implicitDefEqProofs [e]
      · have e : constS s = ((numRes (s.drop (k + 1))).2 == 0) := by simp [constS, hs, h4, h2]
        simp -implicitDefEqProofs
        refine hQ2 _ _ _ (loop_ret ?_)
        show KR _ _ Q _ _
        simp -implicitDefEqProofs
        refine hQ _ _ _ ?_
        simp -implicitDefEqProofs [e]
  · have e : constS s = false := by
      have : (cutDot s).2.2 = false := by rw [hs, List.drop_eq_nil_of_le (by omega)]; rfl
      simp [constS, this]
    simp -implicitDefEqProofs [hlt]
    refine hQ2 _ _ _ (loop_exit ?_)
    show KE _ 0 _ Q _ _
    simp -implicitDefEqProofs
    refine hQ _ _ _ ?_
    simp -implicitDefEqProofs [e]
def labelsS (l : List (List UInt8)) : Bool := l.all isLabel && (decide (l.length ≤ 1000) && asc l)
theorem pilasterref09_labels_call (l : List (List UInt8)) : HCall Go.Proofs.Tryz.prog i_pilasterref09_labels [.sl .none (strRows l)] [] (.bool (labelsS l)) [] := by
  refine HCall.go mixed ok_pilasterref09_labels (by simp) fun hfit Q hQ => ?_
  have hln : l.length ≤ 1073741824 := by simpa [fitsL, AV.fits, maxL, strRows] using hfit.1.1
  clear hfit
  simp -implicitDefEqProofs [c_pilasterref09_labels, strRows]
  refine WP_loop (AWp.loopI [] (fun n f h G => ∃ k : Nat, k + n = l.length ∧ f 3 = .int .i64 k ∧ (l.drop k).all isLabel = l.all isLabel) (l.length) (by simp) ⟨0, by simp, rfl, by simp⟩ ?_)
  rintro n f h G ⟨k, hk, h3, hs⟩
  refine AWp.run mixed fun Q2 hQ2 => ?_
  simp -implicitDefEqProofs [AC.dsts, aoDsts, updT, updH, h3]
  by_cases hlt : k < l.length
  · have hd := List.drop_eq_getElem_cons hlt
    simp -implicitDefEqProofs [hlt]
    refine CALL_pure (pilasterref01_IsLabel_call l[k]) (by simp) (by simp) (by simp [kdAV, cnAV, cnCells_eq, kdCells_eq, strRows, Kd.l]) ?_
    cases hb : isLabel l[k]
    · have e : labelsS l = false := by simp only [labelsS]; rw [← hs, hd, List.all_cons, hb]; simp
      simp -implicitDefEqProofs
      refine hQ2 _ _ _ (loop_ret ?_)
      show KR _ _ Q _ _
      simp -implicitDefEqProofs
      refine hQ _ _ _ ?_
      simp -implicitDefEqProofs [e]
    · simp -implicitDefEqProofs [wrap_i64 (n := (k : Int) + 1) (by omega) (by omega)]
      refine hQ2 _ _ _ (loop_next (n - 1) (h) rfl (by omega) (by simp -implicitDefEqProofs [AC.dsts, aoDsts, updT, slots]) ?_)
      refine ⟨k + 1, by omega, by simp [slots], ?_⟩
      rw [← hs, hd, List.all_cons, hb]; simp
  · have hall : l.all isLabel = true := by rw [← hs, List.drop_eq_nil_of_le (by omega)]; rfl
    simp -implicitDefEqProofs [hlt]
    refine hQ2 _ _ _ (loop_exit ?_)
    show KE _ 0 _ Q _ _
    by_cases h1 : l.length ≤ 1000
    · have h1' : (l.length : Int) ≤ 1000 := by omega
      simp -implicitDefEqProofs [h1, h1']
      refine CALL_pure (pilasterref01_Ascending_call l) (by simp) (by simp) (by simp [kdAV, cnAV, cnCells_eq, kdCells_eq, strRows, Kd.l]) ?_
      simp -implicitDefEqProofs
      refine hQ _ _ _ ?_
      simp -implicitDefEqProofs [labelsS, hall, h1]
    · have h1' : ¬ (l.length : Int) ≤ 1000 := by omega
      simp -implicitDefEqProofs [h1']
      refine hQ _ _ _ ?_
      simp -implicitDefEqProofs [labelsS, hall, h1]
end Go.Proofs.YtblbepjnkehoaaaGreatDoor
/- Constructors: well-formed nodes, validity; both sides. -/
namespace Go.Proofs.YtblbepjnkehoaaaGreatDoor
open Go
attribute [local simp] astep aev putA guardA start AV.cells AV.undef takeCells splice intBin strBin abin AV.isCell loadV fillR fillA
attribute [local simp] fin aRes aResL aRes1 AV.strip stripL stripE AV.inScope scopedL scopedE scopedH
set_option maxRecDepth 10000
set_option linter.unusedSimpArgs false
attribute [local simp] beq_dec bne_dec
def n1 (c : Cn) : Bool := decide ((c.l.length : Int) = cnParts c)
def n2 (c : Cn) : Bool := if c.op = 1 ∨ c.op = 3 then !(decide (c.n < 0) || decide (20000 < c.n)) else decide (c.n = 0)
def n3 (c : Cn) : Bool := if c.op = 2 then constS c.s else decide (c.s = [])
def n4 (c : Cn) : Bool := if opB c.op = true ∨ c.op = 2 then kValid c.k else decide (¬ 0 < c.k.l.length)
def n5 (c : Cn) : Bool := !(decide (0 < c.names.length) && !opL c.op) && (!decide (1000 < (c.names.length : Int)) && (asc c.names && c.names.all isLabel))
def nodeS (c : Cn) : Bool := n1 c && (n2 c && (n3 c && (n4 c && n5 c)))
mutual
def cnForm : Cn → Bool
  | .mk o n s k ns l => nodeS (.mk o n s k ns l) && cnForms l
def cnForms : List Cn → Bool
  | [] => true
  | c :: cs => cnForm c && cnForms cs
end
theorem cnForms_all (l : List Cn) : cnForms l = l.all cnForm := by
  induction l with
  | nil => rfl
  | cons c l ih => simp [cnForms, ih]
theorem cnForm_eq (c : Cn) : cnForm c = (nodeS c && c.l.all cnForm) := by cases c; simp [cnForm, cnForms_all, Cn.l]
theorem any_not_all {α : Type} (p : α → Bool) (l : List α) : (l.any fun x => !p x) = !l.all p := by
  induction l with
  | nil => rfl
  | cons x l ih => simp [List.any_cons, List.all_cons, ih]
theorem tycon_formed_2_step (c : Cn) (h : HCall Go.Proofs.Tryz.prog i_tycon_formed [cnAV c] [] (.bool (cnForm c)) []) : HCall Go.Proofs.Tryz.prog i_tycon_formed_2 [cnAV c] [] (.bool !cnForm c) [] := by
  refine HCall.go mixed ok_tycon_formed_2 (by simp) fun hfit Q hQ => ?_
  clear hfit
  simp -implicitDefEqProofs [-Int.not_lt, -Int.not_le, c_tycon_formed_2, cnAV]
  refine CALL_pure (h) (by simp) (by simp) (by simp [kdAV, cnAV, cnCells_eq, kdCells_eq, strRows, Kd.l]) ?_
  simp -implicitDefEqProofs [-Int.not_lt, -Int.not_le]
  refine hQ _ _ _ ?_
  simp -implicitDefEqProofs [-Int.not_lt, -Int.not_le]
set_option maxHeartbeats 2000000 in
theorem tycon_formed_step (c : Cn) (hrec : ∀ x ∈ c.l, HCall Go.Proofs.Tryz.prog i_tycon_formed [cnAV x] [] (.bool (cnForm x)) []) : HCall Go.Proofs.Tryz.prog i_tycon_formed [cnAV c] [] (.bool (cnForm c)) [] := by
  have key := cnForm_eq c
  have hc := slices_ContainsFunc_Con_call c.l (fun x => !cnForm x) i_tycon_formed_2 fun x hx => tycon_formed_2_step x (hrec x hx)
  have hs := slices_ContainsFunc_string_call c.names (fun s => !isLabel s) i_tycon_formed_1 fun s _ => tycon_formed_1_call s
  rw [any_not_all] at hc hs
  refine HCall.go mixed ok_tycon_formed (by simp) fun hfit Q hQ => ?_
  clear hfit hrec
  have f1 : n1 c = false → cnForm c = false := fun h => by rw [key, nodeS, h]; rfl
  have f2 : n2 c = false → cnForm c = false := fun h => by rw [key, nodeS, h]; simp
  have f3 : n3 c = false → cnForm c = false := fun h => by rw [key, nodeS, h]; simp
  have f4 : n4 c = false → cnForm c = false := fun h => by rw [key, nodeS, h]; simp
  have f5 : n5 c = false → cnForm c = false := fun h => by rw [key, nodeS, h]; simp
  have fin5 : n1 c = true → n2 c = true → n3 c = true → n4 c = true → n5 c = true → cnForm c = c.l.all cnForm := fun h1 h2 h3 h4 h5 => by rw [key, nodeS, h1, h2, h3, h4, h5]; simp
  clear key
  simp -implicitDefEqProofs [-Int.not_lt, -Int.not_le, -WP_seq, c_tycon_formed, cnAV, cnCells_eq c]
  rw [WP_seq]
  simp -implicitDefEqProofs [-Int.not_lt, -Int.not_le, -WP_seq]
  refine WP_cut (fun f => n1 c = true) (fun Q' hn hr => ?_) (fun f hI => ?_)
  · clear hc hs f2 f3 f4 f5 fin5
    simp -implicitDefEqProofs [-Int.not_lt, -Int.not_le]
    refine WP_draw (by rfl) ?_
    simp -implicitDefEqProofs [-Int.not_lt, -Int.not_le]
    refine DCALL_pure (tycon_parts_call c) (by simp) (by simp) (by simp [kdAV, cnAV, cnCells_eq, kdCells_eq, strRows, Kd.l]) ?_
    simp -implicitDefEqProofs [-Int.not_lt, -Int.not_le]
    repeat' (first | (refine COND_split (fun hb => ?_) (fun hb => ?_) <;> (try simp only [Bool.not_eq_true', Bool.not_eq_true, Bool.not_eq_false, Bool.not_eq_false', Bool.not_true, Bool.not_false, Bool.not_not] at hb) <;> simp -implicitDefEqProofs [-Int.not_lt, -Int.not_le, hb]) | (refine GRD_split (fun hb => ?_) (fun hb => ?_) <;> (try simp only [Bool.not_eq_true', Bool.not_eq_true, Bool.not_eq_false, Bool.not_eq_false', Bool.not_true, Bool.not_false, Bool.not_not] at hb) <;> simp -implicitDefEqProofs [-Int.not_lt, -Int.not_le, hb]))
    all_goals first
      | (refine hr _ _ ?_; have e := f1 (by clear hn hr hQ; (try simp only [decide_eq_true_eq, decide_eq_false_iff_not] at *); first | (simp [-Int.not_lt, -Int.not_le, *, n1]; done) | (exfalso; omega) | (exfalso; simp_all; done)); simp -implicitDefEqProofs; refine hQ _ _ _ ?_; simp -implicitDefEqProofs [e]; done)
      | (refine hn _ (by simp -implicitDefEqProofs [AC.dsts, aoDsts, updT, slots]) ?_; clear hn hr hQ; (try simp only [decide_eq_true_eq, decide_eq_false_iff_not] at *); first | (simp [-Int.not_lt, -Int.not_le, *, n1]; done) | (exfalso; omega) | (exfalso; simp_all; done))
  simp -implicitDefEqProofs [-Int.not_lt, -Int.not_le, -WP_seq, AC.dsts, aoDsts, updT]
  refine WP_cut (fun f => n2 c = true) (fun Q' hn hr => ?_) (fun f hI => ?_)
  · clear hc hs f1 f3 f4 f5 fin5
    simp -implicitDefEqProofs [-Int.not_lt, -Int.not_le]
    repeat' (first | (refine COND_split (fun hb => ?_) (fun hb => ?_) <;> (try simp only [Bool.not_eq_true', Bool.not_eq_true, Bool.not_eq_false, Bool.not_eq_false', Bool.not_true, Bool.not_false, Bool.not_not] at hb) <;> simp -implicitDefEqProofs [-Int.not_lt, -Int.not_le, hb]) | (refine GRD_split (fun hb => ?_) (fun hb => ?_) <;> (try simp only [Bool.not_eq_true', Bool.not_eq_true, Bool.not_eq_false, Bool.not_eq_false', Bool.not_true, Bool.not_false, Bool.not_not] at hb) <;> simp -implicitDefEqProofs [-Int.not_lt, -Int.not_le, hb]))
    all_goals first
      | (refine hr _ _ ?_; have e := f2 (by clear hn hr hQ; (try simp only [decide_eq_true_eq, decide_eq_false_iff_not] at *); first | (simp [-Int.not_lt, -Int.not_le, *, n2]; done) | (exfalso; omega) | (exfalso; simp_all; done)); simp -implicitDefEqProofs; refine hQ _ _ _ ?_; simp -implicitDefEqProofs [e]; done)
      | (refine hn _ (by simp -implicitDefEqProofs [AC.dsts, aoDsts, updT, slots]) ?_; clear hn hr hQ; (try simp only [decide_eq_true_eq, decide_eq_false_iff_not] at *); first | (simp [-Int.not_lt, -Int.not_le, *, n2]; done) | (exfalso; omega) | (exfalso; simp_all; done))
  simp -implicitDefEqProofs [-Int.not_lt, -Int.not_le, -WP_seq, AC.dsts, aoDsts, updT]
  refine WP_cut (fun f => n3 c = true) (fun Q' hn hr => ?_) (fun f hI => ?_)
  · clear hc hs f1 f2 f4 f5 fin5
    simp -implicitDefEqProofs [-Int.not_lt, -Int.not_le]
    repeat' (first | (refine COND_split (fun hb => ?_) (fun hb => ?_) <;> (try simp only [Bool.not_eq_true', Bool.not_eq_true, Bool.not_eq_false, Bool.not_eq_false', Bool.not_true, Bool.not_false, Bool.not_not] at hb) <;> simp -implicitDefEqProofs [-Int.not_lt, -Int.not_le, hb]) | (refine GRD_split (fun hb => ?_) (fun hb => ?_) <;> (try simp only [Bool.not_eq_true', Bool.not_eq_true, Bool.not_eq_false, Bool.not_eq_false', Bool.not_true, Bool.not_false, Bool.not_not] at hb) <;> simp -implicitDefEqProofs [-Int.not_lt, -Int.not_le, hb]) | (refine CALL_pure (tycon_constant_call c.s) (by simp) (by simp) (by simp [kdAV, cnAV, cnCells_eq, kdCells_eq, strRows, Kd.l]) ?_; simp -implicitDefEqProofs [-Int.not_lt, -Int.not_le]))
    all_goals first
      | (refine hr _ _ ?_; have e := f3 (by clear hn hr hQ; (try simp only [decide_eq_true_eq, decide_eq_false_iff_not] at *); first | (simp [-Int.not_lt, -Int.not_le, *, n3]; done) | (exfalso; omega) | (exfalso; simp_all; done)); simp -implicitDefEqProofs; refine hQ _ _ _ ?_; simp -implicitDefEqProofs [e]; done)
      | (refine hn _ (by simp -implicitDefEqProofs [AC.dsts, aoDsts, updT, slots]) ?_; clear hn hr hQ; (try simp only [decide_eq_true_eq, decide_eq_false_iff_not] at *); first | (simp [-Int.not_lt, -Int.not_le, *, n3]; done) | (exfalso; omega) | (exfalso; simp_all; done))
  simp -implicitDefEqProofs [-Int.not_lt, -Int.not_le, -WP_seq, AC.dsts, aoDsts, updT]
  refine WP_cut (fun f => n4 c = true) (fun Q' hn hr => ?_) (fun f hI => ?_)
  · clear hc hs f1 f2 f3 f5 fin5
    simp -implicitDefEqProofs [-Int.not_lt, -Int.not_le]
    repeat' (first | (refine COND_split (fun hb => ?_) (fun hb => ?_) <;> (try simp only [Bool.not_eq_true', Bool.not_eq_true, Bool.not_eq_false, Bool.not_eq_false', Bool.not_true, Bool.not_false, Bool.not_not] at hb) <;> simp -implicitDefEqProofs [-Int.not_lt, -Int.not_le, hb]) | (refine GRD_split (fun hb => ?_) (fun hb => ?_) <;> (try simp only [Bool.not_eq_true', Bool.not_eq_true, Bool.not_eq_false, Bool.not_eq_false', Bool.not_true, Bool.not_false, Bool.not_not] at hb) <;> simp -implicitDefEqProofs [-Int.not_lt, -Int.not_le, hb]) | (refine CALL_pure (tycon_binder_call c) (by simp) (by simp) (by simp [kdAV, cnAV, cnCells_eq, kdCells_eq, strRows, Kd.l]) ?_; simp -implicitDefEqProofs [-Int.not_lt, -Int.not_le]) | (refine CALL_pure (kind_Valid_call c.k) (by simp) (by simp) (by simp [kdAV, cnAV, cnCells_eq, kdCells_eq, strRows, Kd.l]) ?_; simp -implicitDefEqProofs [-Int.not_lt, -Int.not_le]))
    all_goals first
      | (refine hr _ _ ?_; have e := f4 (by clear hn hr hQ; (try simp only [decide_eq_true_eq, decide_eq_false_iff_not] at *); first | (simp [-Int.not_lt, -Int.not_le, *, n4]; done) | (exfalso; omega) | (exfalso; simp_all; done)); simp -implicitDefEqProofs; refine hQ _ _ _ ?_; simp -implicitDefEqProofs [e]; done)
      | (refine hn _ (by simp -implicitDefEqProofs [AC.dsts, aoDsts, updT, slots]) ?_; clear hn hr hQ; (try simp only [decide_eq_true_eq, decide_eq_false_iff_not] at *); first | (simp [-Int.not_lt, -Int.not_le, *, n4]; done) | (exfalso; omega) | (exfalso; simp_all; done))
  simp -implicitDefEqProofs [-Int.not_lt, -Int.not_le, -WP_seq, AC.dsts, aoDsts, updT]
  refine WP_cut (fun f => n5 c = true) (fun Q' hn hr => ?_) (fun f hI => ?_)
  · clear hc f1 f2 f3 f4 fin5
    simp -implicitDefEqProofs [-Int.not_lt, -Int.not_le, strRows_length]
    repeat' (first | (refine COND_split (fun hb => ?_) (fun hb => ?_) <;> (try simp only [Bool.not_eq_true', Bool.not_eq_true, Bool.not_eq_false, Bool.not_eq_false', Bool.not_true, Bool.not_false, Bool.not_not] at hb) <;> simp -implicitDefEqProofs [-Int.not_lt, -Int.not_le, hb, strRows_length]) | (refine GRD_split (fun hb => ?_) (fun hb => ?_) <;> (try simp only [Bool.not_eq_true', Bool.not_eq_true, Bool.not_eq_false, Bool.not_eq_false', Bool.not_true, Bool.not_false, Bool.not_not] at hb) <;> simp -implicitDefEqProofs [-Int.not_lt, -Int.not_le, hb, strRows_length]) | (refine CALL_pure (tycon_labelled_call c) (by simp) (by simp) (by simp [kdAV, cnAV, cnCells_eq, kdCells_eq, strRows, Kd.l]) ?_; simp -implicitDefEqProofs [-Int.not_lt, -Int.not_le, strRows_length]) | (refine CALL_pure (ident_Ascending_call c.names) (by simp) (by simp) (by simp [kdAV, cnAV, cnCells_eq, kdCells_eq, strRows, Kd.l]) ?_; simp -implicitDefEqProofs [-Int.not_lt, -Int.not_le, strRows_length]) | (refine CALL_pure (hs) (by simp) (by simp) (by simp [kdAV, cnAV, cnCells_eq, kdCells_eq, strRows, Kd.l]) ?_; simp -implicitDefEqProofs [-Int.not_lt, -Int.not_le, strRows_length]))
    clear hs
    all_goals first
      | (refine hr _ _ ?_; have e := f5 (by clear hn hr hQ; (try simp only [decide_eq_true_eq, decide_eq_false_iff_not] at *); first | (simp [-Int.not_lt, -Int.not_le, *, n5]; done) | (exfalso; omega) | (exfalso; simp_all; done)); simp -implicitDefEqProofs; refine hQ _ _ _ ?_; simp -implicitDefEqProofs [e]; done)
      | (refine hn _ (by simp -implicitDefEqProofs [AC.dsts, aoDsts, updT, slots]) ?_; clear hn hr hQ; (try simp only [decide_eq_true_eq, decide_eq_false_iff_not] at *); first | (simp [-Int.not_lt, -Int.not_le, *, n5]; done) | (exfalso; omega) | (exfalso; simp_all; done))
  have e := fin5 ‹_› ‹_› ‹_› ‹_› ‹_›
  clear f1 f2 f3 f4 f5 fin5 hs
  simp -implicitDefEqProofs [-Int.not_lt, -Int.not_le, AC.dsts, aoDsts, updT]
  refine CALL_pure (hc) (by simp) (by simp) (by simp [kdAV, cnAV, cnCells_eq, kdCells_eq, strRows, Kd.l]) ?_
  simp -implicitDefEqProofs [-Int.not_lt, -Int.not_le]
  refine hQ _ _ _ ?_
  simp -implicitDefEqProofs [-Int.not_lt, -Int.not_le, e]
theorem tycon_formed_call (c : Cn) : HCall Go.Proofs.Tryz.prog i_tycon_formed [cnAV c] [] (.bool (cnForm c)) [] :=
  tycon_formed_step c fun x _ => tycon_formed_call x
termination_by SizeOf.sizeOf c
decreasing_by exact Cn.lt_l ‹_›
end Go.Proofs.YtblbepjnkehoaaaGreatDoor
/- Constructors: validity; both sides. -/
namespace Go.Proofs.YtblbepjnkehoaaaGreatDoor
open Go
attribute [local simp] astep aev putA guardA start AV.cells AV.undef takeCells splice intBin strBin abin AV.isCell loadV fillR fillA
attribute [local simp] fin aRes aResL aRes1 AV.strip stripL stripE AV.inScope scopedL scopedE scopedH
set_option maxRecDepth 10000
set_option linter.unusedSimpArgs false
attribute [local simp] beq_dec bne_dec
def cnValid (c : Cn) : Bool := decide (cnSize c ≤ 20000) && (decide (cnDepth c ≤ 400) && cnForm c)
theorem tycon_Valid_call (c : Cn) (hc : cnSize c ≤ 1000000000000) : HCall Go.Proofs.Tryz.prog i_tycon_Valid [cnAV c] [] (.bool (cnValid c)) [] := by
  refine HCall.go mixed ok_tycon_Valid (by simp) fun hfit Q hQ => ?_
  clear hfit
  simp -implicitDefEqProofs [-Int.not_lt, -Int.not_le, c_tycon_Valid, cnAV]
  refine CALL_pure (tycon_Size_call c hc) (by simp) (by simp) (by simp [kdAV, cnAV, cnCells_eq, kdCells_eq, strRows, Kd.l]) ?_
  by_cases h1 : cnSize c ≤ 20000
  · have h1' : (cnSize c : Int) ≤ 20000 := by omega
    simp -implicitDefEqProofs [-Int.not_lt, -Int.not_le, h1, h1']
    refine CALL_pure (tycon_depth_call c hc) (by simp) (by simp) (by simp [kdAV, cnAV, cnCells_eq, kdCells_eq, strRows, Kd.l]) ?_
    by_cases h2 : cnDepth c ≤ 400
    · have h2' : (cnDepth c : Int) ≤ 400 := by omega
      simp -implicitDefEqProofs [-Int.not_lt, -Int.not_le, h2, h2']
      refine CALL_pure (tycon_formed_call c) (by simp) (by simp) (by simp [kdAV, cnAV, cnCells_eq, kdCells_eq, strRows, Kd.l]) ?_
      simp -implicitDefEqProofs [-Int.not_lt, -Int.not_le]
      refine hQ _ _ _ ?_
      simp -implicitDefEqProofs [-Int.not_lt, -Int.not_le, cnValid, h1, h2]
    · have h2' : ¬ (cnDepth c : Int) ≤ 400 := by omega
      simp -implicitDefEqProofs [-Int.not_lt, -Int.not_le, h2']
      refine hQ _ _ _ ?_
      simp -implicitDefEqProofs [-Int.not_lt, -Int.not_le, cnValid, h1, h2]
  · have h1' : ¬ (cnSize c : Int) ≤ 20000 := by omega
    simp -implicitDefEqProofs [-Int.not_lt, -Int.not_le, h1']
    refine hQ _ _ _ ?_
    simp -implicitDefEqProofs [-Int.not_lt, -Int.not_le, cnValid, h1]
def r1 (c : Cn) : Bool := !(decide (c.op < 1) || decide (13 < c.op))
def r2 (c : Cn) : Bool := !((decide (0 ≤ refParts c.op) && (!decide ((c.l.length : Int) = refParts c.op) || !decide (c.names = []))) || (decide (refParts c.op < 0) && (!decide ((c.l.length : Int) = c.names.length) || !labelsS c.names)))
theorem node_ref (c : Cn) : nodeS c = (r1 c && (r2 c && (n2 c && (n3 c && n4 c)))) := by
  have key : (n1 c && n5 c) = (r1 c && r2 c) := by
    have hasc : asc [] = true := rfl
    unfold n1 n5 r1 r2 cnParts
    generalize c.op = op
    generalize c.names = ns
    generalize c.l.length = a
    by_cases h : op < 1 ∨ 13 < op
    · have h2 : (!(decide (op < 1) || decide (13 < op))) = false := by simp; omega
      have h3 : decide ((a : Int) = -1) = false := by rw [decide_eq_false_iff_not]; omega
      rw [if_pos h, h2, h3]; simp
    · rw [if_neg h]
      have h2 : (!(decide (op < 1) || decide (13 < op))) = true := by simp; omega
      rw [h2]
      have hns : (ns = [] → asc ns = true ∧ ns.all isLabel = true) := by rintro rfl; exact ⟨rfl, rfl⟩
      have hl : labelsS ns = (ns.all isLabel && (decide (ns.length ≤ 1000) && asc ns)) := rfl
      have hd : decide (1000 < (ns.length : Int)) = !decide (ns.length ≤ 1000) := by rw [Bool.eq_iff_iff]; simp; omega
      rw [hl, hd]
      have e0 : ns ≠ [] → 0 < ns.length := fun h => List.length_pos_iff.2 h
      by_cases hn : ns = []
      · subst hn
        obtain rfl | rfl | rfl | rfl | rfl | rfl | rfl | rfl | rfl | rfl | rfl | rfl | rfl : op = 1 ∨ op = 2 ∨ op = 3 ∨ op = 4 ∨ op = 5 ∨ op = 6 ∨ op = 7 ∨ op = 8 ∨ op = 9 ∨ op = 10 ∨ op = 11 ∨ op = 12 ∨ op = 13 := by omega
        all_goals simp [opL, opB, refParts, hasc]
      · have e1 := e0 hn
        have e2 : decide (ns = []) = false := by simpa using hn
        have e3 : decide (0 < ns.length) = true := by simpa using e1
        rw [e2, e3]
        obtain rfl | rfl | rfl | rfl | rfl | rfl | rfl | rfl | rfl | rfl | rfl | rfl | rfl : op = 1 ∨ op = 2 ∨ op = 3 ∨ op = 4 ∨ op = 5 ∨ op = 6 ∨ op = 7 ∨ op = 8 ∨ op = 9 ∨ op = 10 ∨ op = 11 ∨ op = 12 ∨ op = 13 := by omega
        all_goals simp [opL, opB, refParts]
        all_goals try (cases ns.all isLabel <;> cases asc ns <;> by_cases hq : ns.length ≤ 1000 <;> by_cases hw : a = ns.length <;> simp [hq, hw])
        all_goals try omega
  have e : nodeS c = ((n1 c && n5 c) && (n2 c && (n3 c && n4 c))) := by
    rw [nodeS]; cases n1 c <;> cases n2 c <;> cases n3 c <;> cases n4 c <;> cases n5 c <;> rfl
  rw [e, key, Bool.and_assoc]
set_option maxHeartbeats 2000000 in
theorem pilasterref09_node_call (c : Cn) : HCall Go.Proofs.Tryz.prog i_pilasterref09_node [cnAV c] [] (.bool (nodeS c)) [] := by
  have key := node_ref c
  refine HCall.go mixed ok_pilasterref09_node (by simp) fun hfit Q hQ => ?_
  clear hfit
  have f1 : r1 c = false → nodeS c = false := fun h => by rw [key, h]; rfl
  have f2 : r2 c = false → nodeS c = false := fun h => by rw [key, h]; simp
  have f3 : n2 c = false → nodeS c = false := fun h => by rw [key, h]; simp
  have f4 : n3 c = false → nodeS c = false := fun h => by rw [key, h]; simp
  have fin5 : r1 c = true → r2 c = true → n2 c = true → n3 c = true → nodeS c = n4 c := fun h1 h2 h3 h4 => by rw [key, h1, h2, h3, h4]; simp
  clear key
  simp -implicitDefEqProofs [-Int.not_lt, -Int.not_le, -WP_seq, c_pilasterref09_node, cnAV, cnCells_eq c]
  rw [WP_seq]
  simp -implicitDefEqProofs [-Int.not_lt, -Int.not_le, -WP_seq]
  refine WP_cut (fun f => r1 c = true) (fun Q' hn hr => ?_) (fun f hI => ?_)
  · clear f2 f3 f4 fin5
    simp -implicitDefEqProofs [-Int.not_lt, -Int.not_le]
    repeat' (first | (refine COND_split (fun hb => ?_) (fun hb => ?_) <;> (try simp only [Bool.not_eq_true', Bool.not_eq_true, Bool.not_eq_false, Bool.not_eq_false', Bool.not_true, Bool.not_false, Bool.not_not] at hb) <;> simp -implicitDefEqProofs [-Int.not_lt, -Int.not_le, hb]) | (refine GRD_split (fun hb => ?_) (fun hb => ?_) <;> (try simp only [Bool.not_eq_true', Bool.not_eq_true, Bool.not_eq_false, Bool.not_eq_false', Bool.not_true, Bool.not_false, Bool.not_not] at hb) <;> simp -implicitDefEqProofs [-Int.not_lt, -Int.not_le, hb]))
    all_goals first
      | (refine hr _ _ ?_; have e := f1 (by clear hn hr hQ; (try simp only [decide_eq_true_eq, decide_eq_false_iff_not] at *); first | (simp [-Int.not_lt, -Int.not_le, *, r1]; done) | (exfalso; omega) | (exfalso; simp_all; done)); simp -implicitDefEqProofs; refine hQ _ _ _ ?_; simp -implicitDefEqProofs [e]; done)
      | (refine hn _ (by simp -implicitDefEqProofs [AC.dsts, aoDsts, updT, slots]) ?_; clear hn hr hQ; (try simp only [decide_eq_true_eq, decide_eq_false_iff_not] at *); first | (simp [-Int.not_lt, -Int.not_le, *, r1]; done) | (exfalso; omega) | (exfalso; simp_all; done))
  simp -implicitDefEqProofs [-Int.not_lt, -Int.not_le, -WP_seq, AC.dsts, aoDsts, updT]
  rw [WP_seq]
  simp -implicitDefEqProofs [-Int.not_lt, -Int.not_le, -WP_seq]
  refine CALL_pure (pilasterref09_parts_call c.op) (by simp) (by simp) (by simp) ?_
  simp -implicitDefEqProofs [-Int.not_lt, -Int.not_le, -WP_seq]
  refine WP_cut (fun f => r2 c = true) (fun Q' hn hr => ?_) (fun f hI => ?_)
  · clear f1 f3 f4 fin5
    simp -implicitDefEqProofs [-Int.not_lt, -Int.not_le, strRows_length]
    repeat' (first | (refine COND_split (fun hb => ?_) (fun hb => ?_) <;> (try simp only [Bool.not_eq_true', Bool.not_eq_true, Bool.not_eq_false, Bool.not_eq_false', Bool.not_true, Bool.not_false, Bool.not_not] at hb) <;> simp -implicitDefEqProofs [-Int.not_lt, -Int.not_le, hb, strRows_length]) | (refine GRD_split (fun hb => ?_) (fun hb => ?_) <;> (try simp only [Bool.not_eq_true', Bool.not_eq_true, Bool.not_eq_false, Bool.not_eq_false', Bool.not_true, Bool.not_false, Bool.not_not] at hb) <;> simp -implicitDefEqProofs [-Int.not_lt, -Int.not_le, hb, strRows_length]) | (refine CALL_pure (pilasterref09_labels_call c.names) (by simp) (by simp) (by simp [kdAV, cnAV, cnCells_eq, kdCells_eq, strRows, Kd.l]) ?_; simp -implicitDefEqProofs [-Int.not_lt, -Int.not_le, strRows_length]))
    all_goals first
      | (refine hr _ _ ?_; have e := f2 (by clear hn hr hQ; (try simp only [decide_eq_true_eq, decide_eq_false_iff_not] at *); first | (simp [-Int.not_lt, -Int.not_le, *, r2]; done) | (exfalso; omega) | (exfalso; simp_all; done)); simp -implicitDefEqProofs; refine hQ _ _ _ ?_; simp -implicitDefEqProofs [e]; done)
      | (refine hn _ (by simp -implicitDefEqProofs [AC.dsts, aoDsts, updT, slots]) ?_; clear hn hr hQ; (try simp only [decide_eq_true_eq, decide_eq_false_iff_not] at *); first | (simp [-Int.not_lt, -Int.not_le, *, r2]; done) | (exfalso; omega) | (exfalso; simp_all; done))
  simp -implicitDefEqProofs [-Int.not_lt, -Int.not_le, -WP_seq, AC.dsts, aoDsts, updT]
  refine WP_cut (fun f => n2 c = true) (fun Q' hn hr => ?_) (fun f hI => ?_)
  · clear f1 f2 f4 fin5
    simp -implicitDefEqProofs [-Int.not_lt, -Int.not_le]
    repeat' (first | (refine COND_split (fun hb => ?_) (fun hb => ?_) <;> (try simp only [Bool.not_eq_true', Bool.not_eq_true, Bool.not_eq_false, Bool.not_eq_false', Bool.not_true, Bool.not_false, Bool.not_not] at hb) <;> simp -implicitDefEqProofs [-Int.not_lt, -Int.not_le, hb]) | (refine GRD_split (fun hb => ?_) (fun hb => ?_) <;> (try simp only [Bool.not_eq_true', Bool.not_eq_true, Bool.not_eq_false, Bool.not_eq_false', Bool.not_true, Bool.not_false, Bool.not_not] at hb) <;> simp -implicitDefEqProofs [-Int.not_lt, -Int.not_le, hb]))
    all_goals first
      | (refine hr _ _ ?_; have e := f3 (by clear hn hr hQ; (try simp only [decide_eq_true_eq, decide_eq_false_iff_not] at *); first | (simp [-Int.not_lt, -Int.not_le, *, n2]; done) | (exfalso; omega) | (exfalso; simp_all; done)); simp -implicitDefEqProofs; refine hQ _ _ _ ?_; simp -implicitDefEqProofs [e]; done)
      | (refine hn _ (by simp -implicitDefEqProofs [AC.dsts, aoDsts, updT, slots]) ?_; clear hn hr hQ; (try simp only [decide_eq_true_eq, decide_eq_false_iff_not] at *); first | (simp [-Int.not_lt, -Int.not_le, *, n2]; done) | (exfalso; omega) | (exfalso; simp_all; done))
  simp -implicitDefEqProofs [-Int.not_lt, -Int.not_le, -WP_seq, AC.dsts, aoDsts, updT]
  refine WP_cut (fun f => n3 c = true) (fun Q' hn hr => ?_) (fun f hI => ?_)
  · clear f1 f2 f3 fin5
    simp -implicitDefEqProofs [-Int.not_lt, -Int.not_le]
    repeat' (first | (refine COND_split (fun hb => ?_) (fun hb => ?_) <;> (try simp only [Bool.not_eq_true', Bool.not_eq_true, Bool.not_eq_false, Bool.not_eq_false', Bool.not_true, Bool.not_false, Bool.not_not] at hb) <;> simp -implicitDefEqProofs [-Int.not_lt, -Int.not_le, hb]) | (refine GRD_split (fun hb => ?_) (fun hb => ?_) <;> (try simp only [Bool.not_eq_true', Bool.not_eq_true, Bool.not_eq_false, Bool.not_eq_false', Bool.not_true, Bool.not_false, Bool.not_not] at hb) <;> simp -implicitDefEqProofs [-Int.not_lt, -Int.not_le, hb]) | (refine CALL_pure (pilasterref09_ConstName_call c.s) (by simp) (by simp) (by simp [kdAV, cnAV, cnCells_eq, kdCells_eq, strRows, Kd.l]) ?_; simp -implicitDefEqProofs [-Int.not_lt, -Int.not_le]))
    all_goals first
      | (refine hr _ _ ?_; have e := f4 (by clear hn hr hQ; (try simp only [decide_eq_true_eq, decide_eq_false_iff_not] at *); first | (simp [-Int.not_lt, -Int.not_le, *, n3]; done) | (exfalso; omega) | (exfalso; simp_all; done)); simp -implicitDefEqProofs; refine hQ _ _ _ ?_; simp -implicitDefEqProofs [e]; done)
      | (refine hn _ (by simp -implicitDefEqProofs [AC.dsts, aoDsts, updT, slots]) ?_; clear hn hr hQ; (try simp only [decide_eq_true_eq, decide_eq_false_iff_not] at *); first | (simp [-Int.not_lt, -Int.not_le, *, n3]; done) | (exfalso; omega) | (exfalso; simp_all; done))
  have e := fin5 ‹_› ‹_› ‹_› ‹_›
  clear f1 f2 f3 f4 fin5
  simp -implicitDefEqProofs [-Int.not_lt, -Int.not_le, AC.dsts, aoDsts, updT]
  repeat' (first | (refine COND_split (fun hb => ?_) (fun hb => ?_) <;> (try simp only [Bool.not_eq_true', Bool.not_eq_true, Bool.not_eq_false, Bool.not_eq_false', Bool.not_true, Bool.not_false, decide_eq_true_eq, decide_eq_false_iff_not, decide_not, Decidable.not_not] at hb) <;> simp -implicitDefEqProofs [-Int.not_lt, -Int.not_le, hb]) | (refine GRD_split (fun hb => ?_) (fun hb => ?_) <;> (try simp only [Bool.not_eq_true', Bool.not_eq_true, Bool.not_eq_false, Bool.not_eq_false', Bool.not_true, Bool.not_false, decide_eq_true_eq, decide_eq_false_iff_not, decide_not, Decidable.not_not] at hb) <;> simp -implicitDefEqProofs [-Int.not_lt, -Int.not_le, hb]) | (refine CALL_pure (pilasterref09_Binder_call c.op) (by simp) (by simp) (by simp [kdAV, cnAV, cnCells_eq, kdCells_eq, strRows, Kd.l, *]) ?_; simp -implicitDefEqProofs [-Int.not_lt, -Int.not_le]) | (refine CALL_pure (pilasterref08_Valid_call c.k) (by simp) (by simp) (by simp [kdAV, cnAV, cnCells_eq, kdCells_eq, strRows, Kd.l, *]) ?_; simp -implicitDefEqProofs [-Int.not_lt, -Int.not_le]))
  all_goals (refine hQ _ _ _ ?_; rw [e]; simp -implicitDefEqProofs [n4, -Int.not_lt, -Int.not_le, *])
theorem pilasterref09_all_step (c : Cn) (hrec : ∀ x ∈ c.l, HCall Go.Proofs.Tryz.prog i_pilasterref09_all [cnAV x] [] (.bool (cnForm x)) []) : HCall Go.Proofs.Tryz.prog i_pilasterref09_all [cnAV c] [] (.bool (cnForm c)) [] := by
  have key := cnForm_eq c
  refine HCall.go mixed ok_pilasterref09_all (by simp) fun hfit Q hQ => ?_
  have hf := cn_fits (c := c) (by simpa [fitsL, cnAV, AV.fits] using hfit)
  have hln : c.l.length ≤ 1073741824 := hf.2.2.2.2.2.2.2.1
  clear hfit hf
  simp -implicitDefEqProofs [-Int.not_lt, -Int.not_le, c_pilasterref09_all, cnAV, cnCells_eq c]
  refine CALL_pure (pilasterref09_node_call c) (by simp) (by simp) (by simp [kdAV, cnAV, cnCells_eq, kdCells_eq, strRows, Kd.l]) ?_
  cases hn : nodeS c
  · simp -implicitDefEqProofs [-Int.not_lt, -Int.not_le]
    refine hQ _ _ _ ?_
    simp -implicitDefEqProofs [-Int.not_lt, -Int.not_le, key, hn]
  rw [hn] at key
  simp only [Bool.true_and] at key
  simp -implicitDefEqProofs [-Int.not_lt, -Int.not_le]
  refine WP_loop (AWp.loopI [] (fun n f h G => ∃ k : Nat, k + n = c.l.length ∧ f 3 = .int .i64 k ∧ (c.l.drop k).all cnForm = cnForm c) (c.l.length) (by simp) ⟨0, by simp, rfl, by rw [key]; rfl⟩ ?_)
  rintro n f h G ⟨k, hk, h3, hs⟩
  refine AWp.run mixed fun Q2 hQ2 => ?_
  simp -implicitDefEqProofs [-Int.not_lt, -Int.not_le, AC.dsts, aoDsts, updT, updH, h3]
  by_cases hlt : k < c.l.length
  · have hd := List.drop_eq_getElem_cons hlt
    simp -implicitDefEqProofs [-Int.not_lt, -Int.not_le, hlt]
    refine CALL_pure (hrec c.l[k] (List.getElem_mem _)) (by simp) (by simp) (by simp [kdAV, cnAV, cnCells_eq, kdCells_eq, strRows, Kd.l]) ?_
    cases hb : cnForm c.l[k]
    · have e : cnForm c = false := by rw [← hs, hd, List.all_cons, hb]; rfl
      simp -implicitDefEqProofs [-Int.not_lt, -Int.not_le]
      refine hQ2 _ _ _ (loop_ret ?_)
      show KR _ _ Q _ _
      simp -implicitDefEqProofs [-Int.not_lt, -Int.not_le]
      refine hQ _ _ _ ?_
      simp -implicitDefEqProofs [-Int.not_lt, -Int.not_le, e]
    · simp -implicitDefEqProofs [-Int.not_lt, -Int.not_le, wrap_i64 (n := (k : Int) + 1) (by omega) (by omega)]
      refine hQ2 _ _ _ (loop_next (n - 1) (h) rfl (by omega) (by simp -implicitDefEqProofs [AC.dsts, aoDsts, updT, slots]) ?_)
      refine ⟨k + 1, by omega, by simp [slots], ?_⟩
      rw [← hs, hd, List.all_cons, hb]; rfl
  · have e : cnForm c = true := by rw [← hs, List.drop_eq_nil_of_le (by omega)]; rfl
    simp -implicitDefEqProofs [-Int.not_lt, -Int.not_le, hlt]
    refine hQ2 _ _ _ (loop_exit ?_)
    show KE _ 0 _ Q _ _
    simp -implicitDefEqProofs [-Int.not_lt, -Int.not_le]
    refine hQ _ _ _ ?_
    simp -implicitDefEqProofs [-Int.not_lt, -Int.not_le, e]
theorem pilasterref09_all_call (c : Cn) : HCall Go.Proofs.Tryz.prog i_pilasterref09_all [cnAV c] [] (.bool (cnForm c)) [] :=
  pilasterref09_all_step c fun x _ => pilasterref09_all_call x
termination_by SizeOf.sizeOf c
decreasing_by exact Cn.lt_l ‹_›
theorem pilasterref09_Valid_call (c : Cn) : HCall Go.Proofs.Tryz.prog i_pilasterref09_Valid [cnAV c] [] (.bool (cnValid c)) [] := by
  refine HCall.go mixed ok_pilasterref09_Valid (by simp) fun hfit Q hQ => ?_
  clear hfit
  have e : cnValid c = ((decide (cnSize c ≤ 20000) && decide (cnDepth c ≤ 400)) && cnForm c) := by rw [cnValid, Bool.and_assoc]
  simp -implicitDefEqProofs [-Int.not_lt, -Int.not_le, c_pilasterref09_Valid, cnAV]
  refine CALL_pure (pilasterref09_Small_call c) (by simp) (by simp) (by simp [kdAV, cnAV, cnCells_eq, kdCells_eq, strRows, Kd.l]) ?_
  cases h : (decide (cnSize c ≤ 20000) && decide (cnDepth c ≤ 400))
  · simp -implicitDefEqProofs [-Int.not_lt, -Int.not_le]
    refine hQ _ _ _ ?_
    simp -implicitDefEqProofs [-Int.not_lt, -Int.not_le, e, h]
  · simp -implicitDefEqProofs [-Int.not_lt, -Int.not_le]
    refine CALL_pure (pilasterref09_all_call c) (by simp) (by simp) (by simp [kdAV, cnAV, cnCells_eq, kdCells_eq, strRows, Kd.l]) ?_
    simp -implicitDefEqProofs [-Int.not_lt, -Int.not_le]
    refine hQ _ _ _ ?_
    simp -implicitDefEqProofs [-Int.not_lt, -Int.not_le, e, h]
theorem tycon_all_1_call (c : Cn) (hc : cnSize c ≤ 1000000000000) : HCall Go.Proofs.Tryz.prog i_tycon_all_1 [cnAV c] [] (.bool !cnValid c) [] := by
  refine HCall.go mixed ok_tycon_all_1 (by simp) fun hfit Q hQ => ?_
  clear hfit
  simp -implicitDefEqProofs [-Int.not_lt, -Int.not_le, c_tycon_all_1, cnAV]
  refine CALL_pure (tycon_Valid_call c hc) (by simp) (by simp) (by simp [kdAV, cnAV, cnCells_eq, kdCells_eq, strRows, Kd.l]) ?_
  simp -implicitDefEqProofs [-Int.not_lt, -Int.not_le]
  refine hQ _ _ _ ?_
  simp -implicitDefEqProofs [-Int.not_lt, -Int.not_le]
theorem tycon_all_call (l : List Cn) (hc : ∀ x ∈ l, cnSize x ≤ 1000000000000) : HCall Go.Proofs.Tryz.prog i_tycon_all [.sl .none (l.map cnCells)] [] (.bool (l.all cnValid)) [] := by
  have h := slices_ContainsFunc_Con_call l (fun x => !cnValid x) i_tycon_all_1 fun x hx => tycon_all_1_call x (hc x hx)
  rw [any_not_all] at h
  refine HCall.go mixed ok_tycon_all (by simp) fun hfit Q hQ => ?_
  clear hfit
  simp -implicitDefEqProofs [-Int.not_lt, -Int.not_le, c_tycon_all]
  refine CALL_pure (h) (by simp) (by simp) (by simp [kdAV, cnAV, cnCells_eq, kdCells_eq, strRows, Kd.l]) ?_
  simp -implicitDefEqProofs [-Int.not_lt, -Int.not_le]
  refine hQ _ _ _ ?_
  simp -implicitDefEqProofs [-Int.not_lt, -Int.not_le]
end Go.Proofs.YtblbepjnkehoaaaGreatDoor
/- Semantic signatures: nodes; the program's side. -/
namespace Go.Proofs.YtblbepjnkehoaaaGreatDoor
open Go
attribute [local simp] astep aev putA guardA start AV.cells AV.undef takeCells splice intBin strBin abin AV.isCell loadV fillR fillA
attribute [local simp] fin aRes aResL aRes1 AV.strip stripL stripE AV.inScope scopedL scopedE scopedH
set_option maxRecDepth 10000
set_option linter.unusedSimpArgs false
attribute [local simp] beq_dec bne_dec
theorem sem_module_call (s : Sm) : HCall Go.Proofs.Tryz.prog i_sem_module [smAV s] [] (.bool (opM s.op)) [] := by
  refine HCall.go mixed ok_sem_module (by simp) fun hfit Q hQ => ?_
  clear hfit
  simp -implicitDefEqProofs [-Int.not_lt, -Int.not_le, c_sem_module, smAV, smCells_eq s]
  repeat' (first | (refine COND_split (fun hb => ?_) (fun hb => ?_) <;> (try simp only [Bool.not_eq_true', Bool.not_eq_true, Bool.not_eq_false, Bool.not_eq_false', Bool.not_true, Bool.not_false, decide_eq_true_eq, decide_eq_false_iff_not, decide_not, Decidable.not_not] at hb) <;> simp -implicitDefEqProofs [-Int.not_lt, -Int.not_le, hb, opM]) | (refine GRD_split (fun hb => ?_) (fun hb => ?_) <;> (try simp only [Bool.not_eq_true', Bool.not_eq_true, Bool.not_eq_false, Bool.not_eq_false', Bool.not_true, Bool.not_false, decide_eq_true_eq, decide_eq_false_iff_not, decide_not, Decidable.not_not] at hb) <;> simp -implicitDefEqProofs [-Int.not_lt, -Int.not_le, hb, opM]))
  all_goals (refine hQ _ _ _ ?_; simp -implicitDefEqProofs [-Int.not_lt, -Int.not_le, *, opM])
theorem pilasterref24_Module_call (s : Sm) : HCall Go.Proofs.Tryz.prog i_pilasterref24_Module [smAV s] [] (.bool (opM s.op)) [] := by
  refine HCall.go mixed ok_pilasterref24_Module (by simp) fun hfit Q hQ => ?_
  clear hfit
  simp -implicitDefEqProofs [-Int.not_lt, -Int.not_le, c_pilasterref24_Module, smAV, smCells_eq s]
  repeat' (first | (refine COND_split (fun hb => ?_) (fun hb => ?_) <;> (try simp only [Bool.not_eq_true', Bool.not_eq_true, Bool.not_eq_false, Bool.not_eq_false', Bool.not_true, Bool.not_false, decide_eq_true_eq, decide_eq_false_iff_not, decide_not, Decidable.not_not] at hb) <;> simp -implicitDefEqProofs [-Int.not_lt, -Int.not_le, hb, opM]) | (refine GRD_split (fun hb => ?_) (fun hb => ?_) <;> (try simp only [Bool.not_eq_true', Bool.not_eq_true, Bool.not_eq_false, Bool.not_eq_false', Bool.not_true, Bool.not_false, decide_eq_true_eq, decide_eq_false_iff_not, decide_not, Decidable.not_not] at hb) <;> simp -implicitDefEqProofs [-Int.not_lt, -Int.not_le, hb, opM]))
  all_goals (refine hQ _ _ _ ?_; simp -implicitDefEqProofs [-Int.not_lt, -Int.not_le, *, opM])
/-- A part fits a label. -/
def fitsM (label : List UInt8) (s : Sm) : Bool := match splitS label with
  | none => false
  | some (k, name) => if k = 1 then decide (s.op = 1) else if k = 2 then decide (s.op = 2) else if k = 3 then decide (s.op = 3) && decide (s.s = name) else if k = 4 then opM s.op else decide (s.op = 4)
theorem sem_fits_call (label : List UInt8) (s : Sm) : HCall Go.Proofs.Tryz.prog i_sem_fits [.str label, smAV s] [] (.bool (fitsM label s)) [] := by
  refine HCall.go mixed ok_sem_fits (by simp) fun hfit Q hQ => ?_
  clear hfit
  simp -implicitDefEqProofs [-Int.not_lt, -Int.not_le, c_sem_fits, smAV, smCells_eq s]
  refine CALL_pure (ident_Split_call label) (by simp) (splitP_scoped _ 0) (by simp) ?_
  cases h : splitS label with
  | none =>
    simp -implicitDefEqProofs [-Int.not_lt, -Int.not_le, splitP]
    refine hQ _ _ _ ?_
    simp -implicitDefEqProofs [-Int.not_lt, -Int.not_le, fitsM, h]
  | some p =>
    obtain ⟨k, name⟩ := p
    simp -implicitDefEqProofs [-Int.not_lt, -Int.not_le, splitP]
    by_cases h1 : k = 1
    · simp -implicitDefEqProofs [-Int.not_lt, -Int.not_le, h1]
      refine hQ _ _ _ ?_
      simp -implicitDefEqProofs [-Int.not_lt, -Int.not_le, fitsM, h, h1]
    by_cases h2 : k = 2
    · simp -implicitDefEqProofs [-Int.not_lt, -Int.not_le, h1, h2]
      refine hQ _ _ _ ?_
      simp -implicitDefEqProofs [-Int.not_lt, -Int.not_le, fitsM, h, h1, h2]
    by_cases h3 : k = 3
    · simp -implicitDefEqProofs [-Int.not_lt, -Int.not_le, h1, h2, h3]
      by_cases h5 : s.op = 3
      · simp -implicitDefEqProofs [-Int.not_lt, -Int.not_le, h5]
        refine hQ _ _ _ ?_
        simp -implicitDefEqProofs [-Int.not_lt, -Int.not_le, fitsM, h, h1, h2, h3, h5]
      · simp -implicitDefEqProofs [-Int.not_lt, -Int.not_le, h5]
        refine hQ _ _ _ ?_
        simp -implicitDefEqProofs [-Int.not_lt, -Int.not_le, fitsM, h, h1, h2, h3, h5]
    by_cases h4 : k = 4
    · simp -implicitDefEqProofs [-Int.not_lt, -Int.not_le, h1, h2, h3, h4]
      refine CALL_pure (sem_module_call s) (by simp) (by simp) (by simp [smAV, smCells_eq, strRows]) ?_
      simp -implicitDefEqProofs [-Int.not_lt, -Int.not_le]
      refine hQ _ _ _ ?_
      simp -implicitDefEqProofs [-Int.not_lt, -Int.not_le, fitsM, h, h1, h2, h3, h4]
    · simp -implicitDefEqProofs [-Int.not_lt, -Int.not_le, h1, h2, h3, h4]
      refine hQ _ _ _ ?_
      simp -implicitDefEqProofs [-Int.not_lt, -Int.not_le, fitsM, h, h1, h2, h3, h4]
theorem splitK_range (s : List UInt8) : ∀ (l : List Int) (k : Int) (n : List UInt8), splitK s l = some (k, n) → k ∈ l
  | [], k, n, h => by cases h
  | x :: xs, k, n, h => by
    rw [splitK] at h
    split at h
    · simp only [Option.some.injEq, Prod.mk.injEq] at h; simp [h.1]
    · exact List.mem_cons_of_mem _ (splitK_range s xs k n h)
theorem pilasterref24_Fits_call (label : List UInt8) (s : Sm) : HCall Go.Proofs.Tryz.prog i_pilasterref24_Fits [.str label, smAV s] [] (.bool (fitsM label s)) [] := by
  refine HCall.go mixed ok_pilasterref24_Fits (by simp) fun hfit Q hQ => ?_
  clear hfit
  simp -implicitDefEqProofs [-Int.not_lt, -Int.not_le, c_pilasterref24_Fits, smAV, smCells_eq s]
  refine CALL_pure (pilasterref01_Split_call label) (by simp) (splitR_scoped _ 0) (by simp) ?_
  cases h : splitS label with
  | none =>
    simp -implicitDefEqProofs [-Int.not_lt, -Int.not_le, splitR]
    refine hQ _ _ _ ?_
    simp -implicitDefEqProofs [-Int.not_lt, -Int.not_le, fitsM, h]
  | some p =>
    obtain ⟨k, name⟩ := p
    have hk := splitK_range label _ k name h
    simp -implicitDefEqProofs [-Int.not_lt, -Int.not_le, splitR]
    by_cases h1 : k = 1
    · simp -implicitDefEqProofs [-Int.not_lt, -Int.not_le, h1]
      refine hQ _ _ _ ?_
      simp -implicitDefEqProofs [-Int.not_lt, -Int.not_le, fitsM, h, h1]
    by_cases h2 : k = 2
    · simp -implicitDefEqProofs [-Int.not_lt, -Int.not_le, h1, h2]
      refine hQ _ _ _ ?_
      simp -implicitDefEqProofs [-Int.not_lt, -Int.not_le, fitsM, h, h1, h2]
    by_cases h3 : k = 3
    · simp -implicitDefEqProofs [-Int.not_lt, -Int.not_le, h1, h2, h3]
      by_cases h5 : s.op = 3
      · simp -implicitDefEqProofs [-Int.not_lt, -Int.not_le, h5]
        refine hQ _ _ _ ?_
        simp -implicitDefEqProofs [-Int.not_lt, -Int.not_le, fitsM, h, h1, h2, h3, h5]
      · simp -implicitDefEqProofs [-Int.not_lt, -Int.not_le, h5]
        refine hQ _ _ _ ?_
        simp -implicitDefEqProofs [-Int.not_lt, -Int.not_le, fitsM, h, h1, h2, h3, h5]
    by_cases h4 : k = 4
    · simp -implicitDefEqProofs [-Int.not_lt, -Int.not_le, h1, h2, h3, h4]
      refine CALL_pure (pilasterref24_Module_call s) (by simp) (by simp) (by simp [smAV, smCells_eq, strRows]) ?_
      simp -implicitDefEqProofs [-Int.not_lt, -Int.not_le]
      refine hQ _ _ _ ?_
      simp -implicitDefEqProofs [-Int.not_lt, -Int.not_le, fitsM, h, h1, h2, h3, h4]
    · have h5 : k = 5 := by simpa [h1, h2, h3, h4] using hk
      simp -implicitDefEqProofs [-Int.not_lt, -Int.not_le, h1, h2, h3, h4, h5]
      refine hQ _ _ _ ?_
      simp -implicitDefEqProofs [-Int.not_lt, -Int.not_le, fitsM, h, h5]
def noCon (c : Cn) : Bool := decide (c.op = 0) && (decide (c.n = 0) && (decide (c.s = []) && (decide (c.k.l = []) && (decide (c.names = []) && decide (c.l = [])))))
theorem pilasterref24_NoCon_call (c : Cn) : HCall Go.Proofs.Tryz.prog i_pilasterref24_NoCon [cnAV c] [] (.bool (noCon c)) [] := by
  refine HCall.go mixed ok_pilasterref24_NoCon (by simp) fun hfit Q hQ => ?_
  clear hfit
  simp -implicitDefEqProofs [-Int.not_lt, -Int.not_le, c_pilasterref24_NoCon, cnAV, cnCells_eq c, strRows_length]
  repeat' (first | (refine COND_split (fun hb => ?_) (fun hb => ?_) <;> (try simp only [Bool.not_eq_true', Bool.not_eq_true, Bool.not_eq_false, Bool.not_eq_false', Bool.not_true, Bool.not_false, decide_eq_true_eq, decide_eq_false_iff_not, decide_not, Decidable.not_not] at hb) <;> simp -implicitDefEqProofs [-Int.not_lt, -Int.not_le, hb, strRows_length]) | (refine GRD_split (fun hb => ?_) (fun hb => ?_) <;> (try simp only [Bool.not_eq_true', Bool.not_eq_true, Bool.not_eq_false, Bool.not_eq_false', Bool.not_true, Bool.not_false, decide_eq_true_eq, decide_eq_false_iff_not, decide_not, Decidable.not_not] at hb) <;> simp -implicitDefEqProofs [-Int.not_lt, -Int.not_le, hb, strRows_length]))
  all_goals (refine hQ _ _ _ ?_; simp -implicitDefEqProofs [noCon, *])
theorem get2 {α : Type} {l : List α} (h : l.length = 2) : ∃ a b, l = [a, b] := by
  match l, h with
  | [a, b], _ => exact ⟨a, b, rfl⟩
theorem get1 {α : Type} {l : List α} (h : l.length = 1) : ∃ a, l = [a] := by
  match l, h with
  | [a], _ => exact ⟨a, rfl⟩
/-- The parts of a node are of the right number and kinds. -/
def rightS (s : Sm) : Bool :=
  if s.op = 1 ∨ s.op = 2 ∨ s.op = 3 then decide (s.l = []) else if s.op = 4 then (match s.l with | [a] => opM a.op | _ => false) else if s.op = 6 then (match s.l with | [a, b] => opM a.op && opM b.op | _ => false)
  else if s.op = 5 then decide (s.names.length ≤ 1000) && (asc s.names && eqBy fitsM s.names s.l) else false
theorem sem_right_call (s : Sm) : HCall Go.Proofs.Tryz.prog i_sem_right [smAV s] [] (.bool (rightS s)) [] := by
  have key : ∀ b, rightS s = b → rightS s = b := fun _ h => h
  unfold rightS at key
  refine HCall.go mixed ok_sem_right (by simp) fun hfit Q hQ => ?_
  have hf := sm_fits (c := s) (by simpa [fitsL, smAV, AV.fits] using hfit)
  have hln : s.l.length ≤ 1073741824 := hf.2.2.2.2.1
  have hnn : s.names.length ≤ 1073741824 := hf.2.2.2.1
  clear hfit hf key
  by_cases h1 : s.op = 1
  · simp -implicitDefEqProofs [-Int.not_lt, -Int.not_le, c_sem_right, smAV, smCells_eq s, h1]
    refine hQ _ _ _ ?_
    simp -implicitDefEqProofs [-Int.not_lt, -Int.not_le, rightS, h1]
  by_cases h2 : s.op = 2
  · simp -implicitDefEqProofs [-Int.not_lt, -Int.not_le, c_sem_right, smAV, smCells_eq s, h2]
    refine hQ _ _ _ ?_
    simp -implicitDefEqProofs [-Int.not_lt, -Int.not_le, rightS, h2]
  by_cases h3 : s.op = 3
  · simp -implicitDefEqProofs [-Int.not_lt, -Int.not_le, c_sem_right, smAV, smCells_eq s, h3]
    refine hQ _ _ _ ?_
    simp -implicitDefEqProofs [-Int.not_lt, -Int.not_le, rightS, h3]
  by_cases h4 : s.op = 4
  · simp -implicitDefEqProofs [-Int.not_lt, -Int.not_le, c_sem_right, smAV, smCells_eq s, h4]
    by_cases hl : s.l.length = 1
    · obtain ⟨a, ha⟩ := get1 hl
      simp -implicitDefEqProofs [-Int.not_lt, -Int.not_le, ha]
      refine CALL_pure (sem_module_call a) (by simp) (by simp) (by simp [smAV]) ?_
      simp -implicitDefEqProofs [-Int.not_lt, -Int.not_le]
      refine hQ _ _ _ ?_
      simp -implicitDefEqProofs [-Int.not_lt, -Int.not_le, rightS, h4, ha]
    · have hl' : ¬ (s.l.length : Int) = 1 := by omega
      have e : rightS s = false := by
        rcases hs : s.l with _ | ⟨a, _ | ⟨b, r⟩⟩
        · simp [rightS, h4, hs]
        · rw [hs] at hl; simp at hl
        · simp [rightS, h4, hs]
      simp -implicitDefEqProofs [-Int.not_lt, -Int.not_le, hl', hl]
      refine hQ _ _ _ ?_
      simp -implicitDefEqProofs [-Int.not_lt, -Int.not_le, e]
  by_cases h6 : s.op = 6
  · simp -implicitDefEqProofs [-Int.not_lt, -Int.not_le, c_sem_right, smAV, smCells_eq s, h6]
    by_cases hl : s.l.length = 2
    · obtain ⟨a, b, ha⟩ := get2 hl
      simp -implicitDefEqProofs [-Int.not_lt, -Int.not_le, ha]
      refine CALL_pure (sem_module_call a) (by simp) (by simp) (by simp [smAV]) ?_
      cases hm : opM a.op
      · simp -implicitDefEqProofs [-Int.not_lt, -Int.not_le]
        refine hQ _ _ _ ?_
        simp -implicitDefEqProofs [-Int.not_lt, -Int.not_le, rightS, h6, ha, hm]
      · simp -implicitDefEqProofs [-Int.not_lt, -Int.not_le]
        refine CALL_pure (sem_module_call b) (by simp) (by simp) (by simp [smAV]) ?_
        simp -implicitDefEqProofs [-Int.not_lt, -Int.not_le]
        refine hQ _ _ _ ?_
        simp -implicitDefEqProofs [-Int.not_lt, -Int.not_le, rightS, h6, ha, hm]
    · have hl' : ¬ (s.l.length : Int) = 2 := by omega
      have e : rightS s = false := by
        rcases hs : s.l with _ | ⟨a, _ | ⟨b, _ | ⟨c, r⟩⟩⟩
        · simp [rightS, h6, hs]
        · simp [rightS, h6, hs]
        · rw [hs] at hl; simp at hl
        · simp [rightS, h6, hs]
      simp -implicitDefEqProofs [-Int.not_lt, -Int.not_le, hl', hl]
      refine hQ _ _ _ ?_
      simp -implicitDefEqProofs [-Int.not_lt, -Int.not_le, e]
  by_cases h5 : s.op = 5
  · have key : rightS s = (decide (s.names.length ≤ 1000) && (asc s.names && eqBy fitsM s.names s.l)) := by simp [rightS, h5]
    by_cases ha : s.l.length = s.names.length
    case neg =>
      have ha' : ¬ (s.l.length : Int) = s.names.length := by omega
      have e : rightS s = false := by rw [key, eqBy_len _ _ _ (by omega)]; simp
      simp -implicitDefEqProofs [-Int.not_lt, -Int.not_le, c_sem_right, smAV, smCells_eq s, h5, strRows_length, ha, ha']
      refine hQ _ _ _ ?_
      simp -implicitDefEqProofs [-Int.not_lt, -Int.not_le, e]
    by_cases hb : s.names.length ≤ 1000
    case neg =>
      have hb' : (1000 : Int) < s.names.length := by omega
      have e : rightS s = false := by rw [key]; simp [hb]
      simp -implicitDefEqProofs [-Int.not_lt, -Int.not_le, c_sem_right, smAV, smCells_eq s, h5, strRows_length, ha, hb']
      refine hQ _ _ _ ?_
      simp -implicitDefEqProofs [-Int.not_lt, -Int.not_le, e]
    have hb' : ¬ (1000 : Int) < s.names.length := by omega
    simp -implicitDefEqProofs [-Int.not_lt, -Int.not_le, c_sem_right, smAV, smCells_eq s, h5, strRows_length, ha, hb']
    refine CALL_pure (ident_Ascending_call s.names) (by simp) (by simp) (by simp [kdAV, cnAV, cnCells_eq, kdCells_eq, strRows, Kd.l]) ?_
    cases hc : asc s.names
    · have e : rightS s = false := by rw [key, hc]; simp
      simp -implicitDefEqProofs [-Int.not_lt, -Int.not_le]
      refine hQ _ _ _ ?_
      simp -implicitDefEqProofs [-Int.not_lt, -Int.not_le, e]
    have key2 : rightS s = eqBy fitsM s.names s.l := by rw [key, hc]; simp [hb]
    simp -implicitDefEqProofs [-Int.not_lt, -Int.not_le, strRows_length]
    refine WP_loop (AWp.loopI [] (fun n f h G => ∃ k : Nat, k + n = s.names.length ∧ f 72 = .int .i64 k ∧ eqBy fitsM (s.names.drop k) (s.l.drop k) = rightS s) (s.names.length) (by simp) ⟨0, by simp, rfl, by rw [key2]; rfl⟩ ?_)
    rintro n f h G ⟨k, hk, h72, hs⟩
    refine AWp.run mixed fun Q2 hQ2 => ?_
    simp -implicitDefEqProofs [-Int.not_lt, -Int.not_le, AC.dsts, aoDsts, updT, updH, h72]
    by_cases hlt : k < s.names.length
    · have hlt2 : k < s.l.length := by omega
      have hd := List.drop_eq_getElem_cons hlt
      have hd2 := List.drop_eq_getElem_cons hlt2
      have hg := strRows_get s.names k hlt
      simp -implicitDefEqProofs [-Int.not_lt, -Int.not_le, hlt, hg, hlt2]
      refine CALL_pure (sem_fits_call s.names[k] s.l[k]) (by simp) (by simp) (by simp [smAV]) ?_
      cases hv : fitsM s.names[k] s.l[k]
      · have e : rightS s = false := by rw [← hs, hd, hd2]; simp [eqBy, hv]
        simp -implicitDefEqProofs [-Int.not_lt, -Int.not_le]
        refine hQ2 _ _ _ (loop_ret ?_)
        show KR _ _ Q _ _
        simp -implicitDefEqProofs [-Int.not_lt, -Int.not_le]
        refine hQ _ _ _ ?_
        simp -implicitDefEqProofs [-Int.not_lt, -Int.not_le, e]
      · simp -implicitDefEqProofs [-Int.not_lt, -Int.not_le, wrap_i64 (n := (k : Int) + 1) (by omega) (by omega)]
        refine hQ2 _ _ _ (loop_next (n - 1) (h) rfl (by omega) (by simp -implicitDefEqProofs [AC.dsts, aoDsts, updT, slots]) ?_)
        refine ⟨k + 1, by omega, by simp [slots], ?_⟩
        rw [← hs, hd, hd2]; simp [eqBy, hv]
    · have e : rightS s = true := by rw [← hs, List.drop_eq_nil_of_le (by omega), List.drop_eq_nil_of_le (by omega)]; simp [eqBy]
      simp -implicitDefEqProofs [-Int.not_lt, -Int.not_le, hlt]
      refine hQ2 _ _ _ (loop_exit ?_)
      show KE _ 1 _ Q _ _
      simp -implicitDefEqProofs [-Int.not_lt, -Int.not_le]
      refine hQ _ _ _ ?_
      simp -implicitDefEqProofs [-Int.not_lt, -Int.not_le, e]
  · simp -implicitDefEqProofs [-Int.not_lt, -Int.not_le, c_sem_right, smAV, smCells_eq s, h1, h2, h3, h4, h5, h6]
    refine hQ _ _ _ ?_
    simp -implicitDefEqProofs [-Int.not_lt, -Int.not_le, rightS, h1, h2, h3, h4, h5, h6]
end Go.Proofs.YtblbepjnkehoaaaGreatDoor
/- Semantic signatures: what nodes are right. -/
namespace Go.Proofs.YtblbepjnkehoaaaGreatDoor
open Go
def m1 (s : Sm) : Bool := rightS s && !(!decide (s.op = 5) && decide (0 < s.names.length))
def m2 (s : Sm) : Bool := if opC3 s.op = true then cnValid s.con else cnEq s.con cnZero
def m3 (s : Sm) : Bool := if s.op = 2 then kValid s.k else decide (¬ 0 < s.k.l.length)
def m4 (s : Sm) : Bool := if s.op = 3 then isName s.s 2 else decide (s.s = [])
def m5 (s : Sm) : Bool := if s.op = 4 then decide (s.n = 0) && (kinds1000 s.ks && decide (s.more = [])) else if s.op = 6 then kinds1000 s.ks && (kinds1000 s.more && (decide (s.n = 0) || (decide (s.n = 1) && decide (s.more = []))))
  else decide (s.n = 0) && (decide (s.ks = []) && decide (s.more = []))
def nodeM (s : Sm) : Bool := m1 s && (m2 s && (m3 s && (m4 s && m5 s)))
end Go.Proofs.YtblbepjnkehoaaaGreatDoor
/- Semantic signatures: nodes by the reference. -/
namespace Go.Proofs.YtblbepjnkehoaaaGreatDoor
open Go
attribute [local simp] astep aev putA guardA start AV.cells AV.undef takeCells splice intBin strBin abin AV.isCell loadV fillR fillA
attribute [local simp] fin aRes aResL aRes1 AV.strip stripL stripE AV.inScope scopedL scopedE scopedH
set_option maxRecDepth 10000
set_option linter.unusedSimpArgs false
attribute [local simp] beq_dec bne_dec
theorem isName_all {s : List UInt8} {q : Int} (h : isName s q = true) : 1 ≤ s.length ∧ s.length ≤ 24 ∧ s.all (fun c => inName c.toNat) = true := by
  simp only [isName, wordOk, Bool.and_eq_true, decide_eq_true_eq] at h
  exact ⟨h.1.1.1, h.1.1.2, h.1.2⟩
theorem inName_cls {n : Int} (h : inName n = true) : (!(cls n == 0)) = true := by
  unfold inName at h
  rcases cls_range n with hc | hc | hc | hc | hc | hc <;> simp [hc] at h ⊢
theorem fitsS_name {k : Int} {s : List UInt8} (h : fitsS k s = true) : ∃ q, isName s q = true := by
  unfold fitsS at h
  split at h
  · simp only [isLow, Bool.and_eq_true] at h; exact ⟨1, h.1⟩
  · exact ⟨2, h⟩
theorem splitK_some (s : List UInt8) : ∀ (l : List Int) (k : Int) (n : List UInt8), splitK s l = some (k, n) → hasPre s (pre k) = true ∧ n = s.drop (pre k).length ∧ fitsS k n = true
  | [], k, n, h => by cases h
  | x :: xs, k, n, h => by
    rw [splitK] at h
    split at h
    · rename_i hc
      simp only [Option.some.injEq, Prod.mk.injEq] at h
      obtain ⟨rfl, rfl⟩ := h
      simp only [Bool.and_eq_true] at hc
      exact ⟨hc.1, rfl, hc.2⟩
    · exact splitK_some s xs k n h
theorem pre_label (k : Int) : (pre k).length ≤ 5 ∧ (pre k).all (fun c => !(cls c.toNat == 0)) = true := by
  unfold pre
  (repeat' split) <;> exact ⟨by decide, by decide⟩
theorem fitsM_label {label : List UInt8} {s : Sm} (h : fitsM label s = true) : isLabel label = true := by
  unfold fitsM at h
  cases hs : splitS label with
  | none => rw [hs] at h; cases h
  | some p =>
    obtain ⟨k, n⟩ := p
    obtain ⟨h1, h2, h3⟩ := splitK_some label _ k n hs
    obtain ⟨q, h4⟩ := fitsS_name h3
    obtain ⟨a1, a2, a3⟩ := isName_all h4
    obtain ⟨b1, b2⟩ := pre_label k
    simp only [hasPre, Bool.and_eq_true, beq_iff_eq, decide_eq_true_eq] at h1
    have e : label = pre k ++ n := by
      have := List.take_append_drop (pre k).length label
      rw [h1.1] at this
      rw [h2]; exact this.symm
    have hl : label.length = (pre k).length + n.length := by rw [e]; simp
    simp only [isLabel, Bool.and_eq_true, decide_eq_true_eq]
    refine ⟨⟨by omega, by omega⟩, ?_⟩
    rw [e, List.all_append, b2, Bool.true_and, List.all_eq_true]
    intro c hc
    rw [List.all_eq_true] at a3
    exact inName_cls (a3 c hc)
def q1 (s : Sm) : Bool := !(decide (s.op < 1) || decide (6 < s.op))
def q2 (s : Sm) : Bool := if opC3 s.op = true then !noCon s.con && cnValid s.con else noCon s.con
def q5 (s : Sm) : Bool := kinds1000 s.ks && (kinds1000 s.more && (!(decide (0 < s.ks.length) && (!decide (s.op = 4) && !decide (s.op = 6))) && !(decide (0 < s.more.length) && (!decide (s.op = 6) || decide (s.n = 1)))))
def q6 (s : Sm) : Bool := !(!decide (s.n = 0) && (!decide (s.op = 6) || !decide (s.n = 1))) && !(decide (0 < s.names.length) && !decide (s.op = 5))
def q7 (s : Sm) : Bool := if s.op = 4 then (match s.l with | [a] => opM a.op | _ => false) else if s.op = 6 then (match s.l with | [a, b] => opM a.op && opM b.op | _ => false)
  else if s.op = 5 then decide (s.names.length ≤ 1000) && (asc s.names && eqBy fitsM s.names s.l) else decide (s.l = [])
theorem noCon_iff (c : Cn) : noCon c = cnEq c cnZero := by
  cases c with | mk o n s k ns l =>
  cases k with | mk kl =>
  cases kl <;> cases l <;> cases ns <;> simp [noCon, cnZero, cnEq, cnEqs, kEq, kEqs, Cn.op, Cn.n, Cn.s, Cn.k, Cn.names, Cn.l, Kd.l, Bool.and_assoc]
  all_goals (by_cases ho : o = 0 <;> by_cases hn : n = 0 <;> by_cases hs : s = [] <;> simp [ho, hn, hs])
theorem valid_op {c : Cn} (h : cnValid c = true) : noCon c = false := by
  simp only [cnValid, Bool.and_eq_true] at h
  have h2 := h.2.2
  rw [cnForm_eq, node_ref] at h2
  simp only [Bool.and_eq_true] at h2
  have h3 := h2.1.1
  simp only [r1, Bool.not_eq_true', Bool.or_eq_false_iff, decide_eq_false_iff_not] at h3
  have : ¬ c.op = 0 := by omega
  simp [noCon, this]
theorem nodeM_ref (s : Sm) : nodeM s = (q1 s && (q2 s && (m3 s && (m4 s && (q5 s && (q6 s && q7 s)))))) := by
  have e2 : m2 s = q2 s := by
    unfold m2 q2
    rw [← noCon_iff]
    split
    · cases hv : cnValid s.con
      · simp
      · rw [valid_op hv]; rfl
    · rfl
  have hk0 : kinds1000 [] = true := by rfl
  have e : (m1 s && m5 s) = (q1 s && (q5 s && (q6 s && q7 s))) := by
    unfold m1 m5 q1 q5 q6 q7 rightS
    generalize s.op = op
    generalize s.n = n
    generalize s.l = l
    generalize s.names = ns
    generalize s.ks = ks
    generalize s.more = more
    by_cases h : op < 1 ∨ 6 < op
    · have h2 : (!(decide (op < 1) || decide (6 < op))) = false := by simp; omega
      rw [h2, if_neg (by omega), if_neg (by omega), if_neg (by omega), if_neg (by omega)]
      simp
    · have h2 : (!(decide (op < 1) || decide (6 < op))) = true := by simp; omega
      rw [h2]
      obtain rfl | rfl | rfl | rfl | rfl | rfl : op = 1 ∨ op = 2 ∨ op = 3 ∨ op = 4 ∨ op = 5 ∨ op = 6 := by omega
      all_goals (by_cases h0 : n = 0 <;> by_cases h1 : n = 1 <;> cases ns <;> cases ks <;> cases more <;> simp [hk0, h0, h1, Bool.and_comm, Bool.and_left_comm, Bool.and_assoc])
      all_goals (rcases l with _ | ⟨a, _ | ⟨b, _ | ⟨c, l⟩⟩⟩ <;> simp [Bool.and_comm, Bool.and_left_comm, Bool.and_assoc])
  have e1 : nodeM s = ((m1 s && m5 s) && (m2 s && (m3 s && m4 s))) := by
    rw [nodeM]; cases m1 s <;> cases m2 s <;> cases m3 s <;> cases m4 s <;> cases m5 s <;> rfl
  rw [e1, e, e2]
  cases q1 s <;> cases q2 s <;> cases m3 s <;> cases m4 s <;> cases q5 s <;> cases q6 s <;> cases q7 s <;> rfl
end Go.Proofs.YtblbepjnkehoaaaGreatDoor
