/- A part of the proof that LiftApplies answers true. -/
import Derived.Shelf.Strings.Cut
import Derived.Shelf.Strings.Fields
import Derived.Shelf.Strconv.AtoiAll
import Derived.Test.YtndkeknbfbdeeaaGreatDoorProg
import Derived.Test.YtndkeknbfbdeeaaGreatDoorG11
set_option linter.all false
set_option maxHeartbeats 4000000
set_option maxRecDepth 100000
namespace Go.Proofs
open Go.Shelf
def Tryz.lays145_ren:Go.Shelf.Ren:=⟨fun |145=>280|220=>318|219=>355|217=>374|225=>375|224=>376|267=>377|266=>392|314=>393|n=>n,fun |9=>9|4=>4|59=>253|3=>3|5=>5|46=>264|146=>329|51=>295|n=>n,fun |1=>1|n=>n⟩
def Tryz.lays145:Go.Proofs.Lays.n145 Tryz.prog Tryz.lays145_ren:={
 mixed:=by kernel_rfl
 f145:=Tryz.func280.trans (congrArg some (by kernel_rfl))
 f217:=Tryz.func374.trans (congrArg some (by kernel_rfl))
 f219:=Tryz.func355.trans (congrArg some (by kernel_rfl))
 f220:=Tryz.func318.trans (congrArg some (by kernel_rfl))
 f224:=Tryz.func376.trans (congrArg some (by kernel_rfl))
 f225:=Tryz.func375.trans (congrArg some (by kernel_rfl))
 f266:=Tryz.func392.trans (congrArg some (by kernel_rfl))
 f267:=Tryz.func377.trans (congrArg some (by kernel_rfl))
 f314:=Tryz.func393.trans (congrArg some (by kernel_rfl))
 t3:=Tryz.underlying3
 a3:=Tryz.isAgg3
 z3:=Tryz.sizeOf3
 v3:=Tryz.zeroValue3
 t4:=Tryz.underlying4
 a4:=Tryz.isAgg4
 z4:=Tryz.sizeOf4
 v4:=Tryz.zeroValue4
 t5:=Tryz.underlying5
 a5:=Tryz.isAgg5
 z5:=Tryz.sizeOf5
 v5:=Tryz.zeroValue5
 t9:=Tryz.underlying9
 a9:=Tryz.isAgg9
 z9:=Tryz.sizeOf9
 v9:=Tryz.zeroValue9
 t46:=Tryz.underlying264
 a46:=Tryz.isAgg264
 z46:=Tryz.sizeOf264
 v46:=Tryz.zeroValue264
 t51:=Tryz.underlying295
 a51:=Tryz.isAgg295
 z51:=Tryz.sizeOf295
 v51:=Tryz.zeroValue295
 t59:=Tryz.underlying253
 a59:=Tryz.isAgg253
 z59:=Tryz.sizeOf253
 v59:=Tryz.zeroValue253
 t146:=Tryz.underlying329
 a146:=Tryz.isAgg329
 z146:=Tryz.sizeOf329
 v146:=Tryz.zeroValue329
 g1:=by kernel_rfl}
def Tryz.laysC172_ren:Go.Shelf.Ren:=⟨fun |172=>319|244=>356|245=>357|247=>378|279=>379|280=>380|281=>381|282=>382|287=>394|316=>395|171=>139|205=>396|321=>399|322=>400|243=>224|246=>285|283=>322|284=>323|285=>324|286=>325|129=>342|317=>358|318=>359|319=>360|320=>361|337=>383|338=>384|n=>n,fun |9=>9|3=>3|75=>225|76=>226|4=>4|5=>5|167=>317|37=>110|0=>0|85=>318|2=>2|168=>320|53=>280|175=>331|46=>264|210=>335|127=>170|145=>342|143=>340|21=>21|171=>279|173=>283|212=>305|51=>295|20=>20|213=>306|232=>337|233=>338|80=>117|n=>n,fun |15=>2|16=>3|17=>0|18=>4|19=>5|n=>n⟩
def Tryz.laysC172:Go.Proofs.LaysC.n172 Tryz.prog Tryz.laysC172_ren:={
 mixed:=by kernel_rfl
 f129:=Tryz.func342.trans (congrArg some (by kernel_rfl))
 f171:=Tryz.func139.trans (congrArg some (by kernel_rfl))
 f172:=Tryz.func319.trans (congrArg some (by kernel_rfl))
 f205:=Tryz.func396.trans (congrArg some (by kernel_rfl))
 f243:=Tryz.func224.trans (congrArg some (by kernel_rfl))
 f244:=Tryz.func356.trans (congrArg some (by kernel_rfl))
 f245:=Tryz.func357.trans (congrArg some (by kernel_rfl))
 f246:=Tryz.func285.trans (congrArg some (by kernel_rfl))
 f247:=Tryz.func378.trans (congrArg some (by kernel_rfl))
 f279:=Tryz.func379.trans (congrArg some (by kernel_rfl))
 f280:=Tryz.func380.trans (congrArg some (by kernel_rfl))
 f281:=Tryz.func381.trans (congrArg some (by kernel_rfl))
 f282:=Tryz.func382.trans (congrArg some (by kernel_rfl))
 f283:=Tryz.func322.trans (congrArg some (by kernel_rfl))
 f284:=Tryz.func323.trans (congrArg some (by kernel_rfl))
 f285:=Tryz.func324.trans (congrArg some (by kernel_rfl))
 f286:=Tryz.func325.trans (congrArg some (by kernel_rfl))
 f287:=Tryz.func394.trans (congrArg some (by kernel_rfl))
 f316:=Tryz.func395.trans (congrArg some (by kernel_rfl))
 f317:=Tryz.func358.trans (congrArg some (by kernel_rfl))
 f318:=Tryz.func359.trans (congrArg some (by kernel_rfl))
 f319:=Tryz.func360.trans (congrArg some (by kernel_rfl))
 f320:=Tryz.func361.trans (congrArg some (by kernel_rfl))
 f321:=Tryz.func399.trans (congrArg some (by kernel_rfl))
 f322:=Tryz.func400.trans (congrArg some (by kernel_rfl))
 f337:=Tryz.func383.trans (congrArg some (by kernel_rfl))
 f338:=Tryz.func384.trans (congrArg some (by kernel_rfl))
 t0:=Tryz.underlying0
 a0:=Tryz.isAgg0
 z0:=Tryz.sizeOf0
 v0:=Tryz.zeroValue0
 t2:=Tryz.underlying2
 a2:=Tryz.isAgg2
 z2:=Tryz.sizeOf2
 v2:=Tryz.zeroValue2
 t3:=Tryz.underlying3
 a3:=Tryz.isAgg3
 z3:=Tryz.sizeOf3
 v3:=Tryz.zeroValue3
 t4:=Tryz.underlying4
 a4:=Tryz.isAgg4
 z4:=Tryz.sizeOf4
 v4:=Tryz.zeroValue4
 t5:=Tryz.underlying5
 a5:=Tryz.isAgg5
 z5:=Tryz.sizeOf5
 v5:=Tryz.zeroValue5
 t9:=Tryz.underlying9
 a9:=Tryz.isAgg9
 z9:=Tryz.sizeOf9
 v9:=Tryz.zeroValue9
 t20:=Tryz.underlying20
 a20:=Tryz.isAgg20
 z20:=Tryz.sizeOf20
 v20:=Tryz.zeroValue20
 t21:=Tryz.underlying21
 a21:=Tryz.isAgg21
 z21:=Tryz.sizeOf21
 v21:=Tryz.zeroValue21
 t37:=Tryz.underlying110
 a37:=Tryz.isAgg110
 z37:=Tryz.sizeOf110
 v37:=Tryz.zeroValue110
 t46:=Tryz.underlying264
 a46:=Tryz.isAgg264
 z46:=Tryz.sizeOf264
 v46:=Tryz.zeroValue264
 t51:=Tryz.underlying295
 a51:=Tryz.isAgg295
 z51:=Tryz.sizeOf295
 v51:=Tryz.zeroValue295
 t53:=Tryz.underlying280
 a53:=Tryz.isAgg280
 z53:=Tryz.sizeOf280
 v53:=Tryz.zeroValue280
 t75:=Tryz.underlying225
 a75:=Tryz.isAgg225
 z75:=Tryz.sizeOf225
 v75:=Tryz.zeroValue225
 t76:=Tryz.underlying226
 a76:=Tryz.isAgg226
 z76:=Tryz.sizeOf226
 v76:=Tryz.zeroValue226
 t85:=Tryz.underlying318
 a85:=Tryz.isAgg318
 z85:=Tryz.sizeOf318
 v85:=Tryz.zeroValue318
 t127:=Tryz.underlying170
 a127:=Tryz.isAgg170
 z127:=Tryz.sizeOf170
 v127:=Tryz.zeroValue170
 t143:=Tryz.underlying340
 a143:=Tryz.isAgg340
 z143:=Tryz.sizeOf340
 v143:=Tryz.zeroValue340
 t145:=Tryz.underlying342
 a145:=Tryz.isAgg342
 z145:=Tryz.sizeOf342
 v145:=Tryz.zeroValue342
 t167:=Tryz.underlying317
 a167:=Tryz.isAgg317
 z167:=Tryz.sizeOf317
 v167:=Tryz.zeroValue317
 t168:=Tryz.underlying320
 a168:=Tryz.isAgg320
 z168:=Tryz.sizeOf320
 v168:=Tryz.zeroValue320
 t171:=Tryz.underlying279
 a171:=Tryz.isAgg279
 z171:=Tryz.sizeOf279
 v171:=Tryz.zeroValue279
 t173:=Tryz.underlying283
 a173:=Tryz.isAgg283
 z173:=Tryz.sizeOf283
 v173:=Tryz.zeroValue283
 t175:=Tryz.underlying331
 a175:=Tryz.isAgg331
 z175:=Tryz.sizeOf331
 v175:=Tryz.zeroValue331
 t210:=Tryz.underlying335
 a210:=Tryz.isAgg335
 z210:=Tryz.sizeOf335
 v210:=Tryz.zeroValue335
 t212:=Tryz.underlying305
 a212:=Tryz.isAgg305
 z212:=Tryz.sizeOf305
 v212:=Tryz.zeroValue305
 t213:=Tryz.underlying306
 a213:=Tryz.isAgg306
 z213:=Tryz.sizeOf306
 t232:=Tryz.underlying337
 a232:=Tryz.isAgg337
 z232:=Tryz.sizeOf337
 v232:=Tryz.zeroValue337
 t233:=Tryz.underlying338
 a233:=Tryz.isAgg338
 z233:=Tryz.sizeOf338
 v233:=Tryz.zeroValue338
 g15:=by kernel_rfl
 g16:=by kernel_rfl
 g17:=by kernel_rfl
 g18:=by kernel_rfl
 g19:=by kernel_rfl
 t80:=Tryz.underlying117
 a80:=Tryz.isAgg117
 z80:=Tryz.sizeOf117
 v80:=Tryz.zeroValue117
 i0:=by kernel_rfl
 i2:=by kernel_rfl
 i3:=by kernel_rfl
 i4:=by kernel_rfl
 i5:=by kernel_rfl
 i9:=by kernel_rfl
 i20:=by kernel_rfl
 i21:=by kernel_rfl
 i37:=by kernel_rfl
 i46:=by kernel_rfl
 i51:=by kernel_rfl
 i53:=by kernel_rfl
 i75:=by kernel_rfl
 i76:=by kernel_rfl
 i80:=by kernel_rfl
 i85:=by kernel_rfl
 i127:=by kernel_rfl
 i143:=by kernel_rfl
 i145:=by kernel_rfl
 i167:=by kernel_rfl
 i168:=by kernel_rfl
 i171:=by kernel_rfl
 i173:=by kernel_rfl
 i175:=by kernel_rfl
 i210:=by kernel_rfl
 i212:=by kernel_rfl
 i232:=by kernel_rfl
 i233:=by kernel_rfl
 m15:=by kernel_rfl
 m16:=by kernel_rfl
 m17:=by kernel_rfl
 m18:=by kernel_rfl
 m19:=by kernel_rfl
 c0:=by kernel_rfl
 c2:=by kernel_rfl
 c3:=by kernel_rfl
 c4:=by kernel_rfl
 c5:=by kernel_rfl
 c9:=by kernel_rfl
 c20:=by kernel_rfl
 c21:=by kernel_rfl
 c37:=by kernel_rfl
 c46:=by kernel_rfl
 c51:=by kernel_rfl
 c53:=by kernel_rfl
 c75:=by kernel_rfl
 c76:=by kernel_rfl
 c80:=by kernel_rfl
 c85:=by kernel_rfl
 c127:=by kernel_rfl
 c143:=by kernel_rfl
 c145:=by kernel_rfl
 c167:=by kernel_rfl
 c168:=by kernel_rfl
 c171:=by kernel_rfl
 c173:=by kernel_rfl
 c175:=by kernel_rfl
 c210:=by kernel_rfl
 c212:=by kernel_rfl
 c213:=by kernel_rfl
 c232:=by kernel_rfl
 c233:=by kernel_rfl}
def Tryz.lays157_ren:Go.Shelf.Ren:=⟨fun |157=>404|229=>406|199=>407|261=>408|311=>409|312=>410|n=>n,fun |9=>9|31=>26|3=>3|5=>5|4=>4|119=>346|0=>0|40=>348|152=>349|21=>21|154=>351|51=>295|141=>353|196=>357|193=>354|198=>360|49=>358|194=>355|201=>363|226=>365|46=>264|227=>366|n=>n,fun |0=>6|6=>7|n=>n⟩
def Tryz.lays157:Go.Proofs.Lays.n157 Tryz.prog Tryz.lays157_ren:={
 mixed:=by kernel_rfl
 f157:=Tryz.func404.trans (congrArg some (by kernel_rfl))
 f199:=Tryz.func407.trans (congrArg some (by kernel_rfl))
 f229:=Tryz.func406.trans (congrArg some (by kernel_rfl))
 f261:=Tryz.func408.trans (congrArg some (by kernel_rfl))
 f311:=Tryz.func409.trans (congrArg some (by kernel_rfl))
 f312:=Tryz.func410.trans (congrArg some (by kernel_rfl))
 t0:=Tryz.underlying0
 a0:=Tryz.isAgg0
 z0:=Tryz.sizeOf0
 v0:=Tryz.zeroValue0
 t3:=Tryz.underlying3
 a3:=Tryz.isAgg3
 z3:=Tryz.sizeOf3
 v3:=Tryz.zeroValue3
 t4:=Tryz.underlying4
 a4:=Tryz.isAgg4
 z4:=Tryz.sizeOf4
 v4:=Tryz.zeroValue4
 t5:=Tryz.underlying5
 a5:=Tryz.isAgg5
 z5:=Tryz.sizeOf5
 v5:=Tryz.zeroValue5
 t9:=Tryz.underlying9
 a9:=Tryz.isAgg9
 z9:=Tryz.sizeOf9
 v9:=Tryz.zeroValue9
 t21:=Tryz.underlying21
 a21:=Tryz.isAgg21
 z21:=Tryz.sizeOf21
 v21:=Tryz.zeroValue21
 t31:=Tryz.underlying26
 a31:=Tryz.isAgg26
 z31:=Tryz.sizeOf26
 v31:=Tryz.zeroValue26
 t40:=Tryz.underlying348
 a40:=Tryz.isAgg348
 z40:=Tryz.sizeOf348
 v40:=Tryz.zeroValue348
 t46:=Tryz.underlying264
 a46:=Tryz.isAgg264
 z46:=Tryz.sizeOf264
 v46:=Tryz.zeroValue264
 t49:=Tryz.underlying358
 a49:=Tryz.isAgg358
 z49:=Tryz.sizeOf358
 v49:=Tryz.zeroValue358
 t51:=Tryz.underlying295
 a51:=Tryz.isAgg295
 z51:=Tryz.sizeOf295
 v51:=Tryz.zeroValue295
 t119:=Tryz.underlying346
 a119:=Tryz.isAgg346
 z119:=Tryz.sizeOf346
 t141:=Tryz.underlying353
 a141:=Tryz.isAgg353
 z141:=Tryz.sizeOf353
 v141:=Tryz.zeroValue353
 t152:=Tryz.underlying349
 a152:=Tryz.isAgg349
 z152:=Tryz.sizeOf349
 v152:=Tryz.zeroValue349
 t154:=Tryz.underlying351
 a154:=Tryz.isAgg351
 z154:=Tryz.sizeOf351
 v154:=Tryz.zeroValue351
 t193:=Tryz.underlying354
 a193:=Tryz.isAgg354
 z193:=Tryz.sizeOf354
 v193:=Tryz.zeroValue354
 t194:=Tryz.underlying355
 a194:=Tryz.isAgg355
 z194:=Tryz.sizeOf355
 v194:=Tryz.zeroValue355
 t196:=Tryz.underlying357
 a196:=Tryz.isAgg357
 z196:=Tryz.sizeOf357
 v196:=Tryz.zeroValue357
 t198:=Tryz.underlying360
 a198:=Tryz.isAgg360
 z198:=Tryz.sizeOf360
 v198:=Tryz.zeroValue360
 t201:=Tryz.underlying363
 a201:=Tryz.isAgg363
 z201:=Tryz.sizeOf363
 v201:=Tryz.zeroValue363
 t226:=Tryz.underlying365
 a226:=Tryz.isAgg365
 z226:=Tryz.sizeOf365
 v226:=Tryz.zeroValue365
 t227:=Tryz.underlying366
 a227:=Tryz.isAgg366
 z227:=Tryz.sizeOf366
 v227:=Tryz.zeroValue366
 g0:=by kernel_rfl
 g6:=by kernel_rfl}
end Go.Proofs
namespace Go.Proofs.YtndkeknbfbdeeaaGreatDoor
open Go
variable {α:Type}
section
open Go.RowKit
attribute [local simp] Pe
def Bpv(l:List Bu)(s:Bu):Hc 405 [.sl .none (At l),.str s] (.int .i64 (Et (fun x=>s==x) l 0)):=by
 refine Hf Bi3 fun Am Q hQ=>?_;have B5:l.length<=1073741824:=by simpa[Bl,AV.fits,A1,At]using Am.1.1
 clear Am;simp[At];refine WL [] (fun n f h G=>∃k:Nat,k+n=l.length/\f 8= .int .i64 k/\Et (fun x=>s==x) (l.drop k) k=Et (fun x=>s==x) l 0) (l.length) Ab ⟨0,Ab,rfl,Ab⟩ ?_;rintro n f h G ⟨k,hk,h8,hs⟩ Q2 Aj;simp[h8];by_cases Af:k<l.length
 . have hd:=Ct Af;simp[Af];refine C3 (fun hb=>?_) (fun hb=>?_)
   . have e:Et (fun x=>s==x) l 0=k:=by rw[<- hs,hd,Et,Ae hb]
     simp;refine Aj (Lr ?_);simp;exact hQ
   simp[Au (n:=(k:Int)+1) Aa Aa];refine Aj (Ln h ?_);refine⟨k+1,Aa,Ab,?_⟩;rw[<- hs,hd,Et,Ac (by rw[hb]; simp)]
 have e:Et (fun x=>s==x) l 0= -1:=by rw[<- hs,Cm Aa,Et]
 simp[Af];refine Aj (Lx ?_);simp;exact hQ
def Bph(l:List Bu)(s:Bu):Hc 403 [.sl .none (At l),.str s] (.bool (l.any fun x=>x==s)):=by
 have e:(l.any fun x=>x==s)=l.any fun x=>s==x:=by congr 1;funext x;rw[Vd]; simp only[T7]; exact eq_comm
 rw[e];refine Hg Biv fun Q hQ=>?_;simp;refine Ca (Bpv l s) ?_;simp;exact hQ (by simp[jl])
def cd:List (List UInt8):=[[97,110,100,97,108,115,111],[99,97,115,101],[100,97,116,97],[100,105,118],[101,108,115,101],[101,110,100],[102,110],[102,117,110],[102,117,110,99,116,111,114],[103,101,110,101,114,97,116,105,118,101],[105,102],[105,109,112,111,114,116],[105,110],[105,110,99,108,117,100,101],[108,101,116],[109,111,100],[109,111,100,117,108,101],[111,102],[111,112,101,110],[111,114,101,108,115,101],[112,97,99,107],[115,104,97,114,105,110,103],[115,105,103],[115,105,103,110,97,116,117,114,101],[115,116,114,117,99,116],[115,116,114,117,99,116,117,114,101],[116,104,101,110],[116,121,112,101],[117,110,112,97,99,107],[118,97,108],[119,105,116,104]]
def Adc:List UInt8:=[97,110,100,97,108,115,111,32,99,97,115,101,32,100,97,116,97,32,100,105,118,32,101,108,115,101,32,101,110,100,32,102,110,32,102,117,110,32,102,117,110,99,116,111,114,32,103,101,110,101,114,97,116,105,118,101,32,105,102,32,105,109,112,111,114,116,32,105,110,32,105,110,99,108,117,100,101,32,108,101,116,32,109,111,100,32,109,111,100,117,108,101,32,111,102,32,111,112,101,110,32,111,114,101,108,115,101,32,112,97,99,107,32,115,104,97,114,105,110,103,32,115,105,103,32,115,105,103,110,97,116,117,114,101,32,115,116,114,117,99,116,32,115,116,114,117,99,116,117,114,101,32,116,104,101,110,32,116,121,112,101,32,117,110,112,97,99,107,32,118,97,108,32,119,105,116,104]
def Add:Lib.fields Adc=cd:=Di
def Bae:∀c:Nat,c<256->Lib.isSp (UInt8.ofNat c)=rq c:=Di
def Bqc(s:Bu)(Aca:∀b∈s,b.toNat<128)(hlen:∀x∈Lib.fields s,x.length<=A1)(Vv:(Lib.fields s).length<=A1):Hc 404 [.str s] (.sl .none (At (Lib.fields s))):=by
 refine C7.below A5 fun F g w vs hG nh hr=>?_;simp only[RL]at hr;obtain⟨v,r,rfl,hv,rfl⟩:=hr;simp only[R]at hv;obtain⟨rfl,hs⟩:=hv;refine(Any.strings_Fields_core Tryz.lays157 A5 ⟨s.toArray⟩ w (by simp[ByteArray.size,A1]at hs ⊢; omega) (fun j b hb=>?_) (fun c hc=>?_)).mono ?_
 . exact Aca b (Sr (by simpa using hb))
 . rw[Bae c hc,show Tryz.lays157_ren.g 0=ig from A5]; exact(hG.asc c hc).2
 rintro e w' ⟨rfl,rfl⟩;refine⟨_,rfl,⟨rfl,rfl⟩,Ab,fun k hk=>Below.heap_alloc _ _ _ hk,fun F' hF hF'=>?_⟩;unfold R;refine⟨by simpa[At]using Vv,.inr ⟨w.heap.size,0,none,(Lib.fields s).length,1,by simp[At],by simp[At],⟨Aa,.inr rfl⟩,?_,trivial⟩⟩;refine A3x _ 0 (fun o=>hF' _ _ (Bm _) Ab) hlen fun j x hx=>?_;simp only[World.cell?,World.alloc,Agp];simp[hx]
def A95(s:Bu):Hc 402 [.str s] (.bool (cd.any fun x=>x==s)):=by
 refine Hg Bdy fun Q hQ=>?_;have hk:([97,110,100,97,108,115,111,32,99,97,115,101,32,100,97,116,97,32,100,105,118,32,101,108,115,101,32,101,110,100,32,102,110,32,102,117,110,32,102,117,110,99,116,111,114,32,103,101,110,101,114,97,116,105,118,101,32,105,102,32,105,109,112,111,114,116,32,105,110,32,105,110,99,108,117,100,101,32,108,101,116,32,109,111,100,32,109,111,100,117,108,101,32,111,102,32,111,112,101,110,32,111,114,101,108,115,101,32,112,97,99,107,32,115,104,97,114,105,110,103,32,115,105,103,32,115,105,103,110,97,116,117,114,101,32,115,116,114,117,99,116,32,115,116,114,117,99,116,117,114,101,32,116,104,101,110,32,116,121,112,101,32,117,110,112,97,99,107,32,118,97,108,32,119,105,116,104]:Bu)=Adc:=rfl;have hc:=Bqc Adc Di (by rw[Add]; decide) (by rw[Add]; decide);rw[Add]at hc;simp[hk];refine Ca hc ?_;simp;refine Ca (Bph cd s) ?_;simp;exact hQ
def Uu(s:List UInt8):Bool:=He s 1 && !(cd.any fun x=>x==s)
def G7:List UInt8->List UInt8×List UInt8×Bool
 | []=>([],[],false)
 |b::l=>if b==46 then([],l,true)else(b::(G7 l).1,(G7 l).2)
def Aup:∀s:List UInt8,(0<=Lib.index s [46]/\G7 s=(s.take (Lib.index s [46]).toNat,s.drop ((Lib.index s [46]).toNat+1),true))\/(Lib.index s [46]= -1/\G7 s=(s,[],false))
 | []=>.inr ⟨by simp[Lib.index],rfl⟩
 |b::l=>by
  by_cases hb:b=46
  . subst hb
    left
    simp[Lib.index,G7,List.isPrefixOf]
  have Bg:([46]:List UInt8).isPrefixOf (b::l)=false:=by simp[List.isPrefixOf,Ib hb]
  have hc:G7 (b::l)=(b::(G7 l).1,(G7 l).2):=by simp[G7,hb]
  rcases Aup l with⟨h1,h2⟩|⟨h1,h2⟩
  . left
    have e:Lib.index (b::l) [46]=Lib.index l [46]+1:=by
     rw[Lib.index,Bg];have:(Lib.index l [46] == -1)=false:=by simp;omega
     simp[this]
    have e2:(Lib.index l [46]+1).toNat=(Lib.index l [46]).toNat+1:=Aa;rw[e,hc,h2,e2];exact⟨Aa,Ab⟩
  right
  have e:Lib.index (b::l) [46]= -1:=by rw[Lib.index,Bg,h1]; simp
  rw[e,hc,h2];exact⟨rfl,rfl⟩
def A7w(s:Bu):Lib.cut s [46]=G7 s:=by
 unfold Lib.cut;rcases Aup s with⟨h1,h2⟩|⟨h1,h2⟩
 . rw[Ae h1,h2]; rfl
 rw[Ac Aa,h2]
def A7v(s:Bu):(G7 s).1.length<=s.length/\(G7 s).2.1.length<=s.length:=by
 induction s with
 |nil=>simp[G7]
 |cons b l ih=>
  simp only[G7];split
  . simp
  simp;omega
def Bqb(s:Bu):Hc 280 [.str s,.str [46]] (.tup [.str (G7 s).1,.str (G7 s).2.1,.bool (G7 s).2.2]):=by
 refine C7.below A5 fun F g w vs hG nh hr=>?_;obtain⟨v,u,rfl,hv,hu⟩:=A3y hr;simp only[R]at hv hu;obtain⟨rfl,hs⟩:=hv;obtain⟨rfl,_⟩:=hu;obtain⟨_,m,hm⟩:=hG.mxl;rw[show ti=Tryz.lays145_ren.g 1 from A5]at hm;refine(Any.strings_Cut Tryz.lays145 ⟨s.toArray⟩ ⟨#[46]⟩ m w (by simp[ByteArray.size,A1]at hs ⊢; omega) hm).mono ?_;rintro e w' ⟨rfl,n,rfl⟩;refine⟨_,rfl,⟨rfl,rfl⟩,Bm _,fun k hk=>rfl,fun F' hF hF'=>?_⟩;have hl:=A7v s;have e1:Lib.cut s [46]=G7 s:=A7w s;simp only[e1];unfold R;refine⟨_,rfl,?_⟩;simp only[RL];exact⟨_,_,rfl,Aam Aa,_,_,rfl,Aam Aa,_,_,rfl,by unfold R;rfl,rfl⟩
def Fv(acc:Nat)(l:List UInt8):Nat:=l.foldl (fun a c=>10*a+(c.toNat-48)) acc
def Ar8(acc:Nat):Fv acc []=acc:=rfl
def Ar7(acc:Nat)(c:UInt8)(l:Bu):Fv acc (c::l)=Fv (10*acc+(c.toNat-48)) l:=by simp only[Fv,yf]
def K0(c:UInt8):Bool:=Dt c.toNat==3
def uv(c:UInt8):K0 c=true↔48<=c.toNat/\c.toNat<=57:=by
 generalize hn:c.toNat=n;simp only[K0,Dt,hn,T7];split
 . constructor<;>intro h<;>omega
 split
 . constructor<;>intro h<;>omega
 split
 . constructor<;>intro h<;>omega
 split
 . constructor<;>intro h<;>omega
 split<;>constructor<;>intro h<;>omega
def A7x(l:Bu)(acc:Nat):acc<=Fv acc l:=by
 induction l generalizing acc with
 |nil=>exact Bm _
 |cons c l ih=>rw[Ar7]; exact Ps Aa (ih _)
def Axl:∀(l:List UInt8) (acc:Nat),acc<18446744073709551616->l.all K0=true->Lib.parseUint10 acc l=if Fv acc l<18446744073709551616 then .ok (Fv acc l)else .range
 | [],acc,ha,_=>by simp[Lib.parseUint10,Ar8,ha]
 |c::l,acc,ha,h=>by
  simp only[Er,Bb]at h;have hc:=(uv c).1 h.1;have hle:=A7x l (10*acc+(c.toNat-48));rw[Lib.parseUint10,Ae hc,Ar7];split
  . rw[Ac Aa]
  split
  . rw[Ac Aa]
  rw[show acc*10=10*acc from Aa];exact Axl l _ Aa h.2
def Nf(s:List UInt8):Int×Int:=
 if s=[]\/(1<s.length/\s.headD 0=48)then(0,3)else if s.all K0=true then(if 4503599627370496<Fv 0 s then(0,6)else(Fv 0 s,0))else(0,3)
def T5(s:List UInt8):AV:=if Fv 0 s<9223372036854775808 then .tup [.int .i64 (Fv 0 s),.nili]else .tup [.int .i64 9223372036854775807,.iface 320 (.eptr [])]
def Aif(s:Bu)(n:Nat):(T5 s).inScope n=true:=by unfold T5;split<;>simp
def A1a(s:Bu)(Bg:s≠[])(hd:s.all K0=true):Hc 319 [.str s] (T5 s):=by
 have Ky:Lib.atoiAll s=if Fv 0 s<9223372036854775808 then .ok (Fv 0 s)else .range:=by
  cases s with
  |nil=>exact absurd rfl Bg
  |cons c r=>
   have hc:=(uv c).1 (by simp only[Er,Bb]at hd;exact hd.1);have h1:¬(c.toNat=43\/c.toNat=45):=Aa;have h2:¬c.toNat=45:=Aa;simp only[Lib.atoiAll,Ac h1];simp only[h2,not_false_eq_true,L1,false_and,Bq];rw[Lib.parseMag,Ac Bg,Axl _ 0 Aa hd];by_cases hx:Fv 0 (c::r)<18446744073709551616
   . rw[Ae hx];simp only;by_cases hy:Fv 0 (c::r)<9223372036854775808
     . rw[Ae hy,Ac Aa]
     rw[Ac hy,Ae Aa]
   rw[Ac hx];simp only;rw[Ac Aa]
 have hsat:Lib.atoiSat s=9223372036854775807:=by
  cases s with
  |nil=>rfl
  |cons c r=>
   have hc:=(uv c).1 (by simp only[Er,Bb]at hd;exact hd.1);unfold Lib.atoiSat;rw[Ac (by simp;omega)]
 refine C7.below A5 fun F g w vs hG nh hr=>?_;simp only[RL]at hr;obtain⟨v,r,rfl,hv,rfl⟩:=hr;simp only[R]at hv;obtain⟨rfl,hs⟩:=hv;have Cl:(⟨s.toArray⟩:ByteArray).size=s.length:=by simp[ByteArray.size]
 by_cases Af:Fv 0 s<9223372036854775808
 . rw[Ae Af]at Ky;refine(Any.strconv_Atoi_ok Tryz.laysC172 ⟨s.toArray⟩ (by rw[Cl]; simp[A1]at hs;omega) (Fv 0 s) Ky w).mono ?_;rintro e w' ⟨rfl,hw⟩
   have hb:Below w.heap.size w w':=by
    rcases hw with rfl|⟨t,rfl⟩
    . exact Below.refl _ _
    exact Lib.bytesWorld_below _ _ _
   refine⟨_,rfl,⟨hb.os,hb.output⟩,hb.size,hb.block,fun F' hF hF'=>?_⟩;unfold T5;rw[Ae Af];unfold R;refine⟨_,rfl,?_⟩;simp only[RL];refine⟨_,_,rfl,?_,_,_,rfl,?_,rfl⟩
   . unfold R;exact⟨rfl,by simp[IntKind.has,IntKind.min,IntKind.max,IntKind.signed,IntKind.bits]; omega⟩
   unfold R;rfl
 rw[Ac Af]at Ky;obtain⟨_,te,pe,hc⟩:=hG.rng;rw[show ii=Tryz.laysC172_ren.g 16 from A5]at hc;refine(Any.strconv_Atoi_range Tryz.laysC172 ⟨s.toArray⟩ (by rw[Cl]; simp[A1]at hs;omega) Ky _ w hc (.inr ⟨te,pe,rfl⟩)).mono ?_;rintro e w' ⟨N,rfl,h1,h2,hb⟩;refine⟨_,rfl,⟨hb.os,hb.output⟩,hb.size,hb.block,fun F' hF hF'=>?_⟩;unfold T5;rw[Ac Af];unfold R;refine⟨_,rfl,?_⟩;simp only[RL];refine⟨_,_,rfl,?_,_,_,rfl,?_,rfl⟩
 . simp only[hsat]; unfold R;exact⟨rfl,by simp[IntKind.has,IntKind.min,IntKind.max,IntKind.signed,IntKind.bits]⟩
 unfold R;exact⟨_,rfl,by unfold R;exact⟨N,0,rfl,trivial⟩⟩
end
section
attribute [local simp] Pe
def Aus:Uu []=false:=by simp[Uu,He,Oq]
def Baf:He [] 2=false:=by simp[He,Oq]
def Aul(s:Bu):Hc 398 [.str s] (.bool (Uu s)):=by
 refine Hg Bdq fun Q hQ=>?_;simp;refine Ca (Aum s 1) ?_;cases h:He s 1
 . simp;exact hQ (by simp[Uu,h])
 simp;refine Ca (A95 s) ?_;simp;exact hQ (by simp[Uu,h])
def Bky(l:List Bu)(s:Bu):Hc 390 [.sl .none (At l),.str s] (.int .i64 (Et (fun x=>x==s) l 0)):=by
 refine Hf Bff fun Am Q hQ=>?_;have B5:l.length<=1073741824:=by simpa[Bl,AV.fits,A1,At]using Am.1.1
 clear Am;simp[At];refine WL [] (fun n f h G=>∃k:Nat,k+n=l.length/\f 5= .int .i64 k/\Et (fun x=>x==s) (l.drop k) k=Et (fun x=>x==s) l 0) (l.length) Ab ⟨0,Ab,rfl,Ab⟩ ?_;rintro n f h G ⟨k,hk,h5,hs⟩ Q2 Aj;simp[h5];by_cases Af:k<l.length
 . have hd:=Ct Af;simp[Af];refine C3 (fun hb=>?_) (fun hb=>?_)
   . have e:Et (fun x=>x==s) l 0=k:=by rw[<- hs,hd,Et,Ae hb]
     simp;refine Aj (Lr ?_);simp;exact hQ
   simp[Au (n:=(k:Int)+1) Aa Aa];refine Aj (Ln h ?_);refine⟨k+1,Aa,Ab,?_⟩;rw[<- hs,hd,Et,Ac (by rw[hb]; simp)]
 have e:Et (fun x=>x==s) l 0= -1:=by rw[<- hs,Cm Aa,Et]
 simp[Af];refine Aj (Lx ?_);simp;exact hQ
def Bk1:Hc 391 [] (.sl .none (At cd)):=by
 refine Hg Bfm fun Q hQ=>?_;simp[List.replicate];exact hQ (by simp[cd,At])
def A96(p:Bu->Bool)(l:List Bu):decide (Et p l 0<0)= !l.any p:=by
 rw[<- jl p l 0,Vd]; simp
def Axp(s:Bu):Hc 373 [.str s] (.bool (Uu s)):=by
 refine Hg Bfk fun Q hQ=>?_;simp;refine Ca (Axr s) ?_;simp
 cases s with
 |nil=>
  have h:Oq []=false:=by simp[Oq]
  simp[h]
  exact hQ (by simp[Aus])
 |cons c s=>
  cases h:Oq (c::s)
  . simp;exact hQ (by simp[Uu,He,h])
  simp;refine Ca (Axq c.toNat) ?_;cases h2:Dt c.toNat==1
  . simp;exact hQ (by simp[Uu,He,h,h2])
  simp;refine Ca Bk1 ?_;simp;refine Ca (Bky cd (c::s)) ?_;simp;exact hQ (by simp[Uu,He,h,h2,A96])
def Bz(k:Int):List UInt8:=if k=1 then [118,97,108,46]else if k=2 then [116,121,112,101,46]else if k=3 then [99,111,110,46]else if k=4 then [109,111,100,46]else if k=5 then [115,105,103,46]else []
def Od(k:Int)(s:List UInt8):Bool:=if k=1\/k=2 then Uu s else He s 2
def A88(k:Int):Od k []=false:=by unfold Od;split<;>simp[Aus,Baf]
def Wc(s:List UInt8):List Int->Option (Int×List UInt8)
 | []=>none
 |k::ks=>if Q0 s (Bz k)&&Od k (s.drop (Bz k).length)then some (k,s.drop (Bz k).length)else Wc s ks
def Rk(s:List UInt8):Option (Int×List UInt8):=Wc s [1,2,3,4,5]
def A94(k:Int):Hc 386 [.int .i64 k] (.str (Bz k)):=by
 refine Hg Bdx fun Q hQ=>?_;simp[Cb]
 repeat' (first |(refine C3 (fun hb=>?_) (fun hb=>?_)<;>simp only[Aw,Bj]at hb<;>simp[hb,Cb]))
 all_goals exact hQ (by simp[*,Bz])
def A93(k:Int)(s:Bu):Hc 387 [.int .i64 k,.str s] (.bool (Od k s)):=by
 refine Hg Bdu fun Q hQ=>?_;by_cases h1:k=1
 . subst h1;simp;refine Ca (Aul s) ?_;simp;exact hQ (by simp[Od])
 by_cases h2:k=2
 . subst h2;simp;refine Ca (Aul s) ?_;simp;exact hQ (by simp[Od])
 simp[Cb,h1,h2];refine Ca (Acz s) ?_;simp;exact hQ (by simp[Od,h1,h2])
def Bkz(k:Int)(s:Bu):Hc 354 [.int .i64 k,.str s] (.bool (Od k s)):=by
 refine Hg Bfg fun Q hQ=>?_;by_cases h1:k=1
 . subst h1;simp;refine Ca (Axp s) ?_;simp;exact hQ (by simp[Od])
 by_cases h2:k=2
 . subst h2;simp;refine Ca (Axp s) ?_;simp;exact hQ (by simp[Od])
 simp[Cb,h1,h2];refine Ca (Aef s) ?_;simp;exact hQ (by simp[Od,h1,h2])
def dz(o:Option (Int×List UInt8)):AV:=match o with |some (k,s)=>.tup [.int .i64 k,.str s,.int .i64 0]|none=>.tup [.int .i64 0,.str [],.int .i64 3]
def d5(o:Option (Int×List UInt8)):AV:=match o with |some (k,s)=>.tup [.int .i64 k,.str s]|none=>.tup [.int .i64 0,.str []]
def Bp3(o:Option (Int×Bu))(n:Nat):(dz o).inScope n=true:=by unfold dz;split<;>simp
def Bp4(o:Option (Int×Bu))(n:Nat):(d5 o).inScope n=true:=by unfold d5;split<;>simp
def Ar4{k:Nat}(h1:1<=k)(h2:k<=5):([1,2,3,4,5]:F6).drop (k-1)=(k:Int)::([1,2,3,4,5]:F6).drop k:=by
 obtain rfl|rfl|rfl|rfl|rfl:k=1\/k=2\/k=3\/k=4\/k=5:=Aa
 all_goals rfl
def A92(s:Bu):Hc 362 [.str s] (dz (Rk s)):=by
 refine Hg Bdt fun Q hQ=>?_;simp;refine WL [] (fun n f h G=>∃k:Nat,1<=k/\k+n=6/\f 5= .int .i64 k/\Wc s (([1,2,3,4,5]:F6).drop (k-1))=Rk s) (5) Ab ⟨1,Ab,Ab,rfl,by simp[Rk]⟩ ?_;rintro n f h G ⟨k,hk1,hk,h5,hs⟩ Q2 Aj;simp[h5];by_cases Af:k<=5
 . have Cc:(k:Int)<=5:=by omega
   rw[Ar4 hk1 Af,Wc]at hs;simp[Cc];refine Ca (A94 k) ?_;simp;refine Fh (Bqa s (Bz k)) Ab (Ar1 s _ 0) Ab ?_;cases hp:Q0 s (Bz k)
   . rw[hp]at hs;simp[Sy,hp,Au (n:=(k:Int)+1) Aa Aa];refine Aj (Ln h ?_);exact⟨k+1,Aa,Aa,Ab,by simpa using hs⟩
   rw[hp]at hs;simp[Sy,hp];refine Ca (A93 k (s.drop (Bz k).length)) ?_;cases hf:Od k (s.drop (Bz k).length)
   . rw[hf]at hs;simp[Au (n:=(k:Int)+1) Aa Aa];refine Aj (Ln h ?_);exact⟨k+1,Aa,Aa,Ab,by simpa using hs⟩
   rw[hf]at hs;have e:Rk s=some ((k:Int),s.drop (Bz k).length):=by rw[<- hs]; simp
   simp;refine Aj (Lr ?_);simp;exact hQ (by simp[e,dz])
 have Cc:¬(k:Int)<=5:=by omega
 have e:Rk s=none:=by rw[<- hs,Cm (by simp;omega)]; rfl
 simp[Cc];refine Aj (Lx ?_);simp;exact hQ (by simp[e,dz])
def Bk0:Hc 353 [] (.sl .none (At [Bz 0,Bz 1,Bz 2,Bz 3,Bz 4,Bz 5])):=by
 refine Hg Bfh fun Q hQ=>?_;simp[List.replicate];exact hQ (by simp[Bz,At])
def A9u{k:Nat}(h2:k<=5):(At [Bz 0,Bz 1,Bz 2,Bz 3,Bz 4,Bz 5])[k]? =some [.str (Bz k)]:=by
 obtain rfl|rfl|rfl|rfl|rfl|rfl:k=0\/k=1\/k=2\/k=3\/k=4\/k=5:=Aa
 all_goals rfl
def A9v:(At [Bz 0,Bz 1,Bz 2,Bz 3,Bz 4,Bz 5]).length=6:=rfl
def Bk3(s:Bu):Hc 317 [.str s] (d5 (Rk s)):=by
 refine Hg Bfq fun Q hQ=>?_;simp;refine Ca Bk0 ?_;simp;refine WL [] (fun n f h G=>∃k:Nat,1<=k/\k+n=6/\f 5= .int .i64 k/\Wc s (([1,2,3,4,5]:F6).drop (k-1))=Rk s) (5) Ab ⟨1,Ab,Ab,rfl,by simp[Rk]⟩ ?_;rintro n f h G ⟨k,hk1,hk,h5,hs⟩ Q2 Aj;simp[h5,A9v];by_cases Af:k<=5
 . have Cc:(k:Int)<6:=by omega
   have hg:=A9u Af;rw[Ar4 hk1 Af,Wc]at hs;simp[Cc,hg];refine Wd ?_;by_cases hl:(Bz k).length<s.length
   . have S7:(Bz k).length<=s.length:=by omega
     have Ci:((Bz k).length:Int)<s.length:=Aa;have i6:((Bz k).length:Int)<=s.length:=Aa;simp[Ci,i6,hg];cases hp:s.take (Bz k).length==Bz k
     . have Q8:Q0 s (Bz k)=false:=by simp[Q0,hp]
       rw[Q8]at hs;simp[Au (n:=(k:Int)+1) Aa Aa];refine Aj (Ln h ?_);exact⟨k+1,Aa,Aa,Ab,by simpa using hs⟩
     have Q8:Q0 s (Bz k)=true:=by simp[Q0,hp,S7]
     rw[Q8]at hs;simp[i6];refine Da (Bkz k (s.drop (Bz k).length)) ?_;cases hf:Od k (s.drop (Bz k).length)
     . rw[hf]at hs;simp[Au (n:=(k:Int)+1) Aa Aa];refine Aj (Ln h ?_);exact⟨k+1,Aa,Aa,Ab,by simpa using hs⟩
     rw[hf]at hs;have e:Rk s=some ((k:Int),s.drop (Bz k).length):=by rw[<- hs]; simp
     simp;refine Wd ?_;simp[i6];refine Aj (Lr ?_);simp;exact hQ (by simp[e,d5])
   have Ci:¬((Bz k).length:Int)<s.length:=by omega
   have Q8:(Q0 s (Bz k)&&Od k (s.drop (Bz k).length))=false:=by
    rw[Cm Aa,A88]; simp
   rw[Q8]at hs;simp[Ci,Au (n:=(k:Int)+1) Aa Aa];refine Aj (Ln h ?_);exact⟨k+1,Aa,Aa,Ab,by simpa using hs⟩
 have Cc:¬(k:Int)<6:=by omega
 have e:Rk s=none:=by rw[<- hs,Cm (by simp;omega)]; rfl
 simp[Cc];refine Aj (Lx ?_);simp;exact hQ (by simp[e,d5])
def Bss{n:Int}(h1:0<=n)(h2:n<=255):IntKind.u8.wrap n=n:=by
 unfold IntKind.wrap IntKind.signed IntKind.bits;simp;omega
def A91(s:Bu):Hc 281 [.str s] (Lu (Nf s)):=by
 refine Hf Bds fun Am Q hQ=>?_;have B5:s.length<=1073741824:=by simpa[Bl,AV.fits,A1]using Am
 clear Am;simp;by_cases h1:s=[]
 . have e:Nf s=(0,3):=by simp[Nf,h1]
   simp[h1];exact hQ (by simp[e,Lu])
 have Gf:0<s.length:=List.length_pos_iff.2 h1;have Y7:=Aci Gf;have Bg:(s==([]:Bu))=false:=by simpa using h1
 have ja:s.isEmpty=false:=by simpa using h1
 by_cases h2:1<s.length/\s.headD 0=48
 . have e:Nf s=(0,3):=by simp only[Nf,h2,Mq,or_true,Bp]
   have h2':(1:Int)<s.length:=Aa;have h3:s[0]=48:=by rw[<- Y7]; exact h2.2
   simp[ja,h2',Gf,h3];exact hQ (by simp[e,Lu])
 have key:Nf s=if s.all K0=true then(if 4503599627370496<Fv 0 s then(0,6)else((Fv 0 s:Int),0))else(0,3):=by
  rw[Nf,Ac (by rintro(h|h); exact h1 h;exact h2 h)]
 have hgo:∀b:Bool,((1:Int)<s.length)->b=((s[0].toNat:Int)==48)->b=false:=by
  intro b hb e;subst e;have:¬s[0]=48:=fun h=>h2 ⟨Aa,by rw[Y7]; exact h⟩;simp only[Qr,Nc];intro h;apply this;apply UInt8.toNat_inj.1;show s[0].toNat=48;omega
 simp[ja];by_cases h4:(1:Int)<s.length
 . have h5:=hgo _ h4 rfl;simp[h4,Gf,h5];refine WL [] (fun n f h G=>∃k:Nat,k+n=s.length/\f 23= .int .i64 k/\((s.drop k).all K0)=s.all K0) (s.length) Ab ⟨0,Ab,rfl,Ab⟩ ?_;rintro n f h G ⟨k,hk,h23,hs⟩ Q2 Aj;simp[h23];by_cases Af:k<s.length
   . have hd:=Ct Af;simp[Af];refine Ca (nr s[k].toNat) ?_;cases hc:Dt s[k].toNat==3
     . have e:Nf s=(0,3):=by rw[key,Ac (by rw[<- hs,hd,Er,K0,hc]; simp)]
       simp[bne,hc];refine Aj (Lr ?_);simp;exact hQ (by simp[e,Lu])
     simp[bne,hc,Au (n:=(k:Int)+1) Aa Aa];refine Aj (Ln h ?_);refine⟨k+1,Aa,Ab,?_⟩;rw[<- hs,hd,Er,K0,hc]; simp
   have Ky:s.all K0=true:=by rw[<- hs,Cm Aa]; rfl
   rw[Ae Ky]at key;simp[Af];refine Aj (Lx ?_);simp;refine Fh (A1a s h1 Ky) Ab (Aif s 0) Ab ?_;by_cases h6:Fv 0 s<9223372036854775808
   . by_cases h7:4503599627370496<Fv 0 s
     . have Ud:(4503599627370496:Int)<Fv 0 s:=by omega
       rw[Ae h7]at key;simp[T5,h6,Lp,Ud];exact hQ (by simp[key,Lu])
     have Ud:¬(4503599627370496:Int)<Fv 0 s:=by omega
     rw[Ac h7]at key;simp[T5,h6,Lp,Ud];exact hQ (by simp[key,Lu])
   rw[Ae Aa]at key;simp[T5,h6,Lp];exact hQ (by simp[key,Lu])
 simp[h4];refine WL [] (fun n f h G=>∃k:Nat,k+n=s.length/\f 23= .int .i64 k/\((s.drop k).all K0)=s.all K0) (s.length) Ab ⟨0,Ab,rfl,Ab⟩ ?_;rintro n f h G ⟨k,hk,h23,hs⟩ Q2 Aj;simp[h23];by_cases Af:k<s.length
 . have hd:=Ct Af;simp[Af];refine Ca (nr s[k].toNat) ?_;cases hc:Dt s[k].toNat==3
   . have e:Nf s=(0,3):=by rw[key,Ac (by rw[<- hs,hd,Er,K0,hc]; simp)]
     simp[bne,hc];refine Aj (Lr ?_);simp;exact hQ (by simp[e,Lu])
   simp[bne,hc,Au (n:=(k:Int)+1) Aa Aa];refine Aj (Ln h ?_);refine⟨k+1,Aa,Ab,?_⟩;rw[<- hs,hd,Er,K0,hc]; simp
 have Ky:s.all K0=true:=by rw[<- hs,Cm Aa]; rfl
 rw[Ae Ky]at key;simp[Af];refine Aj (Lx ?_);simp;refine Fh (A1a s h1 Ky) Ab (Aif s 0) Ab ?_;by_cases h6:Fv 0 s<9223372036854775808
 . by_cases h7:4503599627370496<Fv 0 s
   . have Ud:(4503599627370496:Int)<Fv 0 s:=by omega
     rw[Ae h7]at key;simp[T5,h6,Lp,Ud];exact hQ (by simp[key,Lu])
   have Ud:¬(4503599627370496:Int)<Fv 0 s:=by omega
   rw[Ac h7]at key;simp[T5,h6,Lp,Ud];exact hQ (by simp[key,Lu])
 rw[Ae Aa]at key;simp[T5,h6,Lp];exact hQ (by simp[key,Lu])
def A7y(acc:Nat)(l:Bu)(c:UInt8):Fv acc (l++[c])=10*Fv acc l+(c.toNat-48):=by simp only[Fv,Ag5,yf,List.foldl_nil]
def Nj(s:List α)(k:Nat)(h:k<s.length):s.take (k+1)=s.take k++[s[k]]:=by
 rw[qi,Il h]; rfl
def A7z(s:Bu)(k:Nat)(h:k<s.length):Fv 0 (s.take (k+1))=10*Fv 0 (s.take k)+(s[k].toNat-48):=by
 rw[<- A7y,Nj s k h]
def Bk2(s:Bu):Hc 346 [.str s] (Lu (Nf s)):=by
 refine Hf Bfn fun Am Q hQ=>?_;have B5:s.length<=1073741824:=by simpa[Bl,AV.fits,A1]using Am
 clear Am;simp;by_cases h1:s=[]
 . have e:Nf s=(0,3):=by simp[Nf,h1]
   simp[h1];exact hQ (by simp[e,Lu])
 have Gf:0<s.length:=List.length_pos_iff.2 h1;have Y7:=Aci Gf;have Bg:((s.length:Int)==0)=false:=by simp;exact h1
 by_cases h2:1<s.length/\s.headD 0=48
 . have e:Nf s=(0,3):=by simp only[Nf,h2,Mq,or_true,Bp]
   have h2':(1:Int)<s.length:=Aa;have h3:s[0]=48:=by rw[<- Y7]; exact h2.2
   simp[Bg,h2',Gf,h3];exact hQ (by simp[e,Lu])
 have key:Nf s=if s.all K0=true then(if 4503599627370496<Fv 0 s then(0,6)else((Fv 0 s:Int),0))else(0,3):=by
  rw[Nf,Ac (by rintro(h|h); exact h1 h;exact h2 h)]
 have hgo:(1:Int)<s.length->((s[0].toNat:Int)==48)=false:=by
  intro hb;simp only[Qr,Nc];intro h;refine h2 ⟨Aa,?_⟩;rw[Y7];apply UInt8.toNat_inj.1;show s[0].toNat=48;omega
 by_cases h4:(1:Int)<s.length
 case' pos=>have h5:=hgo h4
 all_goals
  first |simp[Bg,h4,Gf,h5]|simp[Bg,h4]
  refine WL [] (fun n f h G=>∃k:Nat,k+n=s.length/\f 5= .int .i64 k/\(∃ m:Nat,f 4= .int .i64 (m:Int)/\m=min 4503599627370497 (Fv 0 (s.take k)))/\((s.drop k).all K0)=s.all K0) (s.length) Ab ⟨0,Ab,rfl,⟨0,rfl,by simp[Ar8]⟩,Ab⟩ ?_;rintro n f h G ⟨k,hk,h5',⟨m,R6,hm⟩,hs⟩ Q2 Aj;simp[h5',R6];by_cases Af:k<s.length
  . have hd:=Ct Af;have hdv:=A7z s k Af;simp[Af];refine Ca (Axn s[k].toNat) ?_;cases hc:Dt s[k].toNat==3
    . have e:Nf s=(0,3):=by rw[key,Ac (by rw[<- hs,hd,Er,K0,hc]; simp)]
      simp;refine Aj (Lr ?_);simp;exact hQ (by simp[e,Lu])
    have hcd:=(uv s[k]).1 hc;have Sf:m<=4503599627370497:=Aa;have e0:IntKind.u8.wrap ((s[k].toNat:Int)-48)=((s[k].toNat-48:Nat):Int):=by rw[Bss Aa Aa]; omega
    have e1:IntKind.i64.wrap (10*(m:Int))=10*(m:Int):=Au Aa Aa;have e2:IntKind.i64.wrap ((s[k].toNat-48:Nat):Int)=((s[k].toNat-48:Nat):Int):=Au Aa Aa;have e3:IntKind.i64.wrap (10*(m:Int)+((s[k].toNat-48:Nat):Int))=10*(m:Int)+((s[k].toNat-48:Nat):Int):=Au Aa Aa;simp[Af,e0,e1,e2,e3,Xx,Uz];simp[Au (n:=(k:Int)+1) Aa Aa];refine Aj (Ln h ?_);refine⟨k+1,Aa,Ab,⟨min 4503599627370497 (10*m+(s[k].toNat-48)),?_,?_⟩,?_⟩
    . simp;split<;>omega
    . rw[hdv]; omega
    rw[<- hs,hd,Er,K0,hc]; simp
  have Ky:s.all K0=true:=by rw[<- hs,Cm Aa]; rfl
  have Xs:s.take k=s:=Gj Aa;rw[Ae Ky]at key;rw[Xs]at hm;by_cases h7:4503599627370496<Fv 0 s
  . rw[Ae h7]at key;have Ud:(4503599627370496:Int)<(m:Int):=Aa;have h8:4503599627370496<m:=Aa;simp[Af];refine Aj (Lx ?_);simp[Ud];exact hQ (by simp[key,Lu])
  rw[Ac h7]at key;have h8:m=Fv 0 s:=Aa;subst h8;have Ud:¬(4503599627370496:Int)<(Fv 0 s:Int):=Aa;simp[Af];refine Aj (Lx ?_);simp[Ud];exact hQ (by simp[key,Lu])
def Qu(s:List UInt8):Bool:=decide (s.length<=48)&&((G7 s).2.2&&(He (G7 s).1 2&&((Nf (G7 s).2.1).2==0)))
def Brx(s:Bu):Hc 212 [.str s] (.bool (Qu s)):=by
 refine Hg Bj7 fun Q hQ=>?_;simp;refine Ca (Bqb s) ?_;simp;refine Ca (A91 (G7 s).2.1) ?_;simp[Lu];cases h1:(G7 s).2.2
 . simp;exact hQ (by simp[Qu,h1])
 by_cases h2:s.length<=48
 . have h2':(s.length:Int)<=48:=by omega
   simp[h2'];refine Ca (Acz (G7 s).1) ?_;cases h3:He (G7 s).1 2
   . simp;exact hQ (by simp[Qu,h1,h2,h3])
   simp;exact hQ (by simp[Qu,h1,h2,h3])
 have h2':¬(s.length:Int)<=48:=by omega
 simp[h2'];exact hQ (by simp[Qu,h1,h2])
def A7u(c:UInt8)(l:Bu):G7 (c::l)=if c==46 then([],l,true)else(c::(G7 l).1,(G7 l).2):=rfl
def Bk8(s:Bu):Hc 306 [.str s] (.bool (Qu s)):=by
 refine Hf Bf1 fun Am Q hQ=>?_;have B5:s.length<=1073741824:=by simpa[Bl,AV.fits,A1]using Am
 clear Am;simp;by_cases h2:s.length<=48
 case neg=>
  have h2':(48:Int)<s.length:=Aa;simp[h2'];exact hQ (by simp[Qu,h2])
 have h2':¬(48:Int)<s.length:=Aa;simp[h2'];refine WL [] (fun n f h G=>∃k:Nat,k+n=s.length/\f 3= .int .i64 k/\G7 s=(s.take k++(G7 (s.drop k)).1,(G7 (s.drop k)).2)) (s.length) Ab ⟨0,Ab,rfl,Ab⟩ ?_;rintro n f h G ⟨k,hk,h3,hs⟩ Q2 Aj;simp[h3];by_cases Af:k<s.length
 . have hd:=Ct Af;rw[hd,A7u]at hs;simp[Af];cases hc:s[k]==46
   . rw[hc]at hs
     have Of:((s[k].toNat:Int)==46)=false:=by
      simp only[Qr,Nc]at hc ⊢;intro h;apply hc;apply UInt8.toNat_inj.1;show s[k].toNat=46;omega
     simp[Of,Au (n:=(k:Int)+1) Aa Aa];refine Aj (Ln h ?_);refine⟨k+1,Aa,Ab,?_⟩;rw[hs,Nj s k Af];simp only[Dp,Bq,Ow,Gb,Gx]
   rw[hc]at hs;simp only[Bp,qb]at hs;have Of:s[k]=46:=by simpa using hc
   have e1:k+1<=s.length:=Af;have e2:(k:Int)+1<=s.length:=Aa;have e3:k<=s.length:=Aa;simp[Of,Au (n:=(k:Int)+1) Aa Aa,e2];refine Ca (Bk2 (s.drop (k+1))) ?_;simp[Lu,e3];refine Ca (Aef (s.take k)) ?_;cases h4:He (s.take k) 2
   . have e:Qu s=false:=by simp[Qu,hs,h4]
     simp;refine Aj (Lr ?_);simp;exact hQ
   have e:Qu s=((Nf (s.drop (k+1))).2==0):=by simp[Qu,hs,h4,h2]
   simp;refine Aj (Lr ?_);simp;exact hQ
 have e:Qu s=false:=by
  have:(G7 s).2.2=false:=by rw[hs,Cm Aa]; rfl
  simp[Qu,this]
 simp[Af];refine Aj (Lx ?_);simp;exact hQ
def cf(l:List (List UInt8)):Bool:=l.all Ff&&(decide (l.length<=1000)&&asc l)
def Blm(l:List Bu):Hc 305 [.sl .none (At l)] (.bool (cf l)):=by
 refine Hf Bgl fun Am Q hQ=>?_;have B5:l.length<=1073741824:=by simpa[Bl,AV.fits,A1,At]using Am.1.1
 clear Am;simp[At];refine WL [] (fun n f h G=>∃k:Nat,k+n=l.length/\f 3= .int .i64 k/\(l.drop k).all Ff=l.all Ff) (l.length) Ab ⟨0,Ab,rfl,Ab⟩ ?_;rintro n f h G ⟨k,hk,h3,hs⟩ Q2 Aj;simp[h3];by_cases Af:k<l.length
 . have hd:=Ct Af;simp[Af];refine Ca (oc l[k]) ?_;cases hb:Ff l[k]
   . have e:cf l=false:=by simp only[cf]; rw[<- hs,hd,Er,hb]; simp
     simp;refine Aj (Lr ?_);simp;exact hQ
   simp[Au (n:=(k:Int)+1) Aa Aa];refine Aj (Ln h ?_);refine⟨k+1,Aa,Ab,?_⟩;rw[<- hs,hd,Er,hb]; simp
 have Ky:l.all Ff=true:=by rw[<- hs,Cm Aa]; rfl
 simp[Af];refine Aj (Lx ?_);by_cases h1:l.length<=1000
 . have h1':(l.length:Int)<=1000:=by omega
   simp[h1'];refine Ca (Aee l) ?_;simp;exact hQ (by simp[cf,Ky,h1])
 have h1':¬(l.length:Int)<=1000:=by omega
 simp[h1'];exact hQ (by simp[cf,Ky,h1])
end
section
attribute [local simp] Cb Cq
def n1(c:Cn):Bool:=decide ((c.l.length:Int)=W6 c)
def n2(c:Cn):Bool:=if c.op=1\/c.op=3 then !(decide (c.n<0)||decide (20000<c.n))else decide (c.n=0)
def n3(c:Cn):Bool:=if c.op=2 then Qu c.s else decide (c.s=[])
def n4(c:Cn):Bool:=if Bw c.op=true\/c.op=2 then Eu c.k else decide (¬ 0<c.k.l.length)
def n5(c:Cn):Bool:=!(decide (0<c.names.length) && !Rd c.op)&&(!decide (1000<(c.names.length:Int))&&(asc c.names&&c.names.all Ff))
def Ht(c:Cn):Bool:=n1 c&&(n2 c&&(n3 c&&(n4 c&&n5 c)))
mutual
def C0:Cn->Bool
 | .mk o n s k ns l=>Ht (.mk o n s k ns l)&&sk l
def sk:List Cn->Bool
 | []=>true
 |c::cs=>C0 c&&sk cs
end
def A7h(l:Ax):sk l=l.all C0:=by
 induction l with
 |nil=>rfl
 |cons c l ih=>simp[sk,ih]
def Mu(c:Cn):C0 c=(Ht c&&c.l.all C0):=by cases c;simp[C0,A7h,Cn.l]
def Rs(p:α->Bool)(l:List α):(l.any fun x=>!p x)= !l.all p:=by
 induction l with
 |nil=>rfl
 |cons x l ih=>simp[Ag2,Er,ih]
def Br2(c:Cn)(h:Hc 132 [Ad c] (.bool (C0 c))):Hc 218 [Ad c] (.bool !C0 c):=by
 refine Hg Bkb fun Q hQ=>?_;simp[-Int.not_lt, -Int.not_le,Ad];refine Ca h ?_;simp[-Int.not_lt, -Int.not_le];exact hQ
def Br3(c:Cn)(A6:∀x∈c.l,Hc 132 [Ad x] (.bool (C0 x))):Hc 132 [Ad c] (.bool (C0 c)):=by
 have key:=Mu c;have hc:=U9 c.l (fun x=>!C0 x) 218 fun x hx=>Br2 x (A6 x hx);have hs:=ou c.names (fun s=>!Ff s) 216 fun s _=>Br1 s;rw[Rs]at hc hs;refine Hf Bj9 fun Am Q hQ=>?_;clear Am A6;have f1:n1 c=false->C0 c=false:=fun h=>by rw[key,Ht,h]; rfl
 have f2:n2 c=false->C0 c=false:=fun h=>by rw[key,Ht,h]; simp
 have f3:n3 c=false->C0 c=false:=fun h=>by rw[key,Ht,h]; simp
 have f4:n4 c=false->C0 c=false:=fun h=>by rw[key,Ht,h]; simp
 have f5:n5 c=false->C0 c=false:=fun h=>by rw[key,Ht,h]; simp
 have fin5:n1 c=true->n2 c=true->n3 c=true->n4 c=true->n5 c=true->C0 c=c.l.all C0:=fun h1 h2 h3 h4 h5=>by rw[key,Ht,h1,h2,h3,h4,h5]; simp
 clear key;simp[-Int.not_lt, -Int.not_le, -Az,Ad,Ap c];rw[Az];simp[-Int.not_lt, -Int.not_le, -Az];refine Gc (fun f=>n1 c=true) (fun Q' hn hr=>?_) (fun f hI=>?_)
 . clear hc hs f2 f3 f4 f5 fin5;simp[-Int.not_lt, -Int.not_le];refine Wd ?_;simp[-Int.not_lt, -Int.not_le];refine Da (Br5 c) ?_;simp[-Int.not_lt, -Int.not_le]
   repeat' (first |(refine C3 (fun hb=>?_) (fun hb=>?_)<;>(try simp only[bM]at hb)<;>simp[-Int.not_lt, -Int.not_le,hb])|(refine Em (fun hb=>?_) (fun hb=>?_)<;>(try simp only[bM]at hb)<;>simp[-Int.not_lt, -Int.not_le,hb]))
   all_goals first
    |(refine hr _ _ ?_;have e:=f1 (by clear hn hr hQ;(try simp only[Bj]at *); first |(simp[-Int.not_lt, -Int.not_le, *,n1]; done)|(exfalso;omega)|(exfalso;simp_all;done)); simp;refine hQ ?_;simp[e]; done)
    |(refine hn _ Ab ?_;clear hn hr hQ;(try simp only[Aw]at *); first |(simp[-Int.not_lt, -Int.not_le, *,n1]; done)|(exfalso;omega)|(exfalso;simp_all;done))
 simp[-Int.not_lt, -Int.not_le, -Az];refine Gc (fun f=>n2 c=true) (fun Q' hn hr=>?_) (fun f hI=>?_)
 . clear hc hs f1 f3 f4 f5 fin5;simp[-Int.not_lt, -Int.not_le]
   repeat' (first |(refine C3 (fun hb=>?_) (fun hb=>?_)<;>(try simp only[bM]at hb)<;>simp[-Int.not_lt, -Int.not_le,hb])|(refine Em (fun hb=>?_) (fun hb=>?_)<;>(try simp only[bM]at hb)<;>simp[-Int.not_lt, -Int.not_le,hb]))
   all_goals first
    |(refine hr _ _ ?_;have e:=f2 (by clear hn hr hQ;(try simp only[Aw,Bj]at *); first |(simp[-Int.not_lt, -Int.not_le, *,n2]; done)|(exfalso;omega)|(exfalso;simp_all;done)); simp;refine hQ ?_;simp[e]; done)
    |(refine hn _ Ab ?_;clear hn hr hQ;(try simp only[Aw,Bj]at *); first |(simp[-Int.not_lt, -Int.not_le, *,n2]; done)|(exfalso;omega)|(exfalso;simp_all;done))
 simp[-Int.not_lt, -Int.not_le, -Az];refine Gc (fun f=>n3 c=true) (fun Q' hn hr=>?_) (fun f hI=>?_)
 . clear hc hs f1 f2 f4 f5 fin5;simp[-Int.not_lt, -Int.not_le]
   repeat' (first |(refine C3 (fun hb=>?_) (fun hb=>?_)<;>(try simp only[bM]at hb)<;>simp[-Int.not_lt, -Int.not_le,hb])|(refine Em (fun hb=>?_) (fun hb=>?_)<;>(try simp only[bM]at hb)<;>simp[-Int.not_lt, -Int.not_le,hb])|(refine Fh (Brx c.s) Ab Ab Ab ?_;simp[-Int.not_lt, -Int.not_le]))
   all_goals first
    |(refine hr _ _ ?_;have e:=f3 (by clear hn hr hQ;(try simp only[Aw,Bj]at *); first |(simp[-Int.not_lt, -Int.not_le, *,n3]; done)|(exfalso;omega)|(exfalso;simp_all;done)); simp;refine hQ ?_;simp[e]; done)
    |(refine hn _ Ab ?_;clear hn hr hQ;(try simp only[Aw,Bj]at *); first |(simp[-Int.not_lt, -Int.not_le, *,n3]; done)|(exfalso;omega)|(exfalso;simp_all;done))
 simp[-Int.not_lt, -Int.not_le, -Az];refine Gc (fun f=>n4 c=true) (fun Q' hn hr=>?_) (fun f hI=>?_)
 . clear hc hs f1 f2 f3 f5 fin5;simp[-Int.not_lt, -Int.not_le]
   repeat' (first |(refine C3 (fun hb=>?_) (fun hb=>?_)<;>(try simp only[bM]at hb)<;>simp[-Int.not_lt, -Int.not_le,hb])|(refine Em (fun hb=>?_) (fun hb=>?_)<;>(try simp only[bM]at hb)<;>simp[-Int.not_lt, -Int.not_le,hb])|(refine Fh (pa c) Ab Ab (by simp[Ad,Ap,At,Kd.l]) ?_;simp[-Int.not_lt, -Int.not_le])|(refine Fh (ce c.k) Ab Ab (by simp[Ba,Df,Kd.l]) ?_;simp[-Int.not_lt, -Int.not_le]))
   all_goals first
    |(refine hr _ _ ?_;have e:=f4 (by clear hn hr hQ;(try simp only[Aw,Bj]at *); first |(simp[-Int.not_lt, -Int.not_le, *,n4]; done)|(exfalso;omega)|(exfalso;simp_all;done)); simp;refine hQ ?_;simp[e]; done)
    |(refine hn _ Ab ?_;clear hn hr hQ;(try simp only[Aw,Bj]at *); first |(simp[-Int.not_lt, -Int.not_le, *,n4]; done)|(exfalso;omega)|(exfalso;simp_all;done))
 simp[-Int.not_lt, -Int.not_le, -Az];refine Gc (fun f=>n5 c=true) (fun Q' hn hr=>?_) (fun f hI=>?_)
 . clear hc f1 f2 f3 f4 fin5;simp[-Int.not_lt, -Int.not_le,Hu]
   repeat' (first |(refine C3 (fun hb=>?_) (fun hb=>?_)<;>(try simp only[bM]at hb)<;>simp[-Int.not_lt, -Int.not_le,hb])|(refine Em (fun hb=>?_) (fun hb=>?_)<;>(try simp only[bM]at hb)<;>simp[-Int.not_lt, -Int.not_le,hb,Hu])|(refine Fh (A2a c) Ab Ab (by simp[Ad,Ap,At,Kd.l]) ?_;simp[-Int.not_lt, -Int.not_le])|(refine Fh (uo c.names) Ab Ab (by simp[At]) ?_;simp[-Int.not_lt, -Int.not_le])|(refine Fh (hs) Ab Ab (by simp[At]) ?_;simp[-Int.not_lt, -Int.not_le]))
   clear hs
   all_goals first
    |(refine hr _ _ ?_;have e:=f5 (by clear hn hr hQ;(try simp only[Aw,Bj]at *); first |(simp[-Int.not_lt, -Int.not_le, *,n5]; done)|(exfalso;omega)|(exfalso;simp_all;done)); simp;refine hQ ?_;simp[e]; done)
    |(refine hn _ Ab ?_;clear hn hr hQ;(try simp only[Aw,Bj]at *); first |(simp[-Int.not_lt, -Int.not_le, *,n5]; done)|(exfalso;omega)|(exfalso;simp_all;done))
 have e:=fin5 ‹_› ‹_› ‹_› ‹_› ‹_›;clear f1 f2 f3 f4 f5 fin5 hs;simp[-Int.not_lt, -Int.not_le];refine Ca hc ?_;simp[-Int.not_lt, -Int.not_le];exact hQ
def A19(c:Cn):Hc 132 [Ad c] (.bool (C0 c)):=
 Br3 c fun x _=>A19 x
termination_by SizeOf.sizeOf c
decreasing_by exact Cn.lt_l ‹_›
end
section
attribute [-simp] Int.not_lt Int.not_le
attribute [local simp] Cb Cq
def Ar(c:Cn):Bool:=decide (Al c<=20000)&&(decide (Bo c<=400)&&C0 c)
def Lc(c:Cn)(hc:Al c<=1000000000000):Hc 64 [Ad c] (.bool (Ar c)):=by
 refine Hg Bj3 fun Q hQ=>?_;simp[Ad];refine Ca (k8 c hc) ?_;by_cases h1:Al c<=20000
 . have h1':(Al c:Int)<=20000:=by omega
   simp[h1'];refine Ca (A17 c hc) ?_;by_cases h2:Bo c<=400
   . have h2':(Bo c:Int)<=400:=by omega
     simp[h2'];refine Ca (A19 c) ?_;simp;exact hQ (by simp[Ar,h1,h2])
   have h2':¬(Bo c:Int)<=400:=by omega
   simp[h2'];exact hQ (by simp[Ar,h1,h2])
 have h1':¬(Al c:Int)<=20000:=by omega
 simp[h1'];exact hQ (by simp[Ar,h1])
def r1(c:Cn):Bool:=!(decide (c.op<1)||decide (13<c.op))
def r2(c:Cn):Bool:=!((decide (0<=dl c.op)&&(!decide ((c.l.length:Int)=dl c.op) || !decide (c.names=[])))||(decide (dl c.op<0)&&(!decide ((c.l.length:Int)=c.names.length) || !cf c.names)))
def Av8(c:Cn):Ht c=(r1 c&&(r2 c&&(n2 c&&(n3 c&&n4 c)))):=by
 have key:(n1 c&&n5 c)=(r1 c&&r2 c):=by
  have Aca:asc []=true:=rfl;unfold n1 n5 r1 r2 W6;generalize c.op=op;generalize c.names=ns;generalize c.l.length=a;by_cases h:op<1\/13<op
  . have h2:(!(decide (op<1)||decide (13<op)))=false:=by simp;omega
    have h3:decide ((a:Int)= -1)=false:=by rw[Bj]; omega
    rw[Ae h,h2,h3]; simp
  rw[Ac h];have h2:(!(decide (op<1)||decide (13<op)))=true:=by simp;omega
  rw[h2];have hns:(ns=[]->asc ns=true/\ns.all Ff=true):=by rintro rfl;exact⟨rfl,rfl⟩
  have hl:cf ns=(ns.all Ff&&(decide (ns.length<=1000)&&asc ns)):=rfl;have hd:decide (1000<(ns.length:Int))= !decide (ns.length<=1000):=by rw[Vd]; simp;omega
  rw[hl,hd];have e0:ns≠[]->0<ns.length:=fun h=>List.length_pos_iff.2 h;by_cases hn:ns=[]
  . subst hn;obtain rfl|rfl|rfl|rfl|rfl|rfl|rfl|rfl|rfl|rfl|rfl|rfl|rfl:op=1\/op=2\/op=3\/op=4\/op=5\/op=6\/op=7\/op=8\/op=9\/op=10\/op=11\/op=12\/op=13:=Aa
    all_goals simp[Rd,Bw,dl,Aca]
  have e1:=e0 hn;have e2:decide (ns=[])=false:=by simpa using hn
  have e3:decide (0<ns.length)=true:=by simpa using e1
  rw[e2,e3];obtain rfl|rfl|rfl|rfl|rfl|rfl|rfl|rfl|rfl|rfl|rfl|rfl|rfl:op=1\/op=2\/op=3\/op=4\/op=5\/op=6\/op=7\/op=8\/op=9\/op=10\/op=11\/op=12\/op=13:=Aa
  all_goals simp[Rd,Bw,dl]
  all_goals try(cases ns.all Ff<;>cases asc ns<;>by_cases hq:ns.length<=1000<;>by_cases hw:a=ns.length<;>simp[hq,hw])
  all_goals try omega
 have e:Ht c=((n1 c&&n5 c)&&(n2 c&&(n3 c&&n4 c))):=by
  rw[Ht]; cases n1 c<;>cases n2 c<;>cases n3 c<;>cases n4 c<;>cases n5 c<;>rfl
 rw[e,key,Ya]
def Bln(c:Cn):Hc 260 [Ad c] (.bool (Ht c)):=by
 have key:=Av8 c;refine Hg Bgm fun Q hQ=>?_;have f1:r1 c=false->Ht c=false:=fun h=>by rw[key,h]; rfl
 have f2:r2 c=false->Ht c=false:=fun h=>by rw[key,h]; simp
 have f3:n2 c=false->Ht c=false:=fun h=>by rw[key,h]; simp
 have f4:n3 c=false->Ht c=false:=fun h=>by rw[key,h]; simp
 have fin5:r1 c=true->r2 c=true->n2 c=true->n3 c=true->Ht c=n4 c:=fun h1 h2 h3 h4=>by rw[key,h1,h2,h3,h4]; simp
 clear key;simp[-Az,Ad,Ap c];rw[Az];simp[-Az];refine Gc (fun f=>r1 c=true) (fun Q' hn hr=>?_) (fun f hI=>?_)
 . clear f2 f3 f4 fin5;simp
   repeat' (first |(refine C3 (fun hb=>?_) (fun hb=>?_)<;>(try simp only[bM]at hb)<;>simp[hb])|(refine Em (fun hb=>?_) (fun hb=>?_)<;>(try simp only[bM]at hb)<;>simp[hb]))
   all_goals first
    |(refine hr _ _ ?_;have e:=f1 (by clear hn hr hQ;(try simp only[Aw,Bj]at *); first |(simp[*,r1]; done)|(exfalso;omega)|(exfalso;simp_all;done)); simp;refine hQ ?_;simp[e]; done)
    |(refine hn _ Ab ?_;clear hn hr hQ;(try simp only[Bj]at *); first |(simp[*,r1]; done)|(exfalso;omega)|(exfalso;simp_all;done))
 simp[-Az];rw[Az];simp[-Az];refine Ca (Blo c.op) ?_;simp[-Az];refine Gc (fun f=>r2 c=true) (fun Q' hn hr=>?_) (fun f hI=>?_)
 . clear f1 f3 f4 fin5;simp
   repeat' (first |(refine C3 (fun hb=>?_) (fun hb=>?_)<;>(try simp only[bM]at hb)<;>simp[hb])|(refine Em (fun hb=>?_) (fun hb=>?_)<;>(try simp only[bM]at hb)<;>simp[hb,Hu])|(refine Fh (Blm c.names) Ab Ab (by simp[At]) ?_;simp))
   all_goals first
    |(refine hr _ _ ?_;have e:=f2 (by clear hn hr hQ;(try simp only[Aw,Bj]at *); first |(simp[*,r2]; done)|(exfalso;omega)|(exfalso;simp_all;done)); simp;refine hQ ?_;simp[e]; done)
    |(refine hn _ Ab ?_;clear hn hr hQ;(try simp only[Aw,Bj]at *); first |(simp[*,r2]; done)|(exfalso;omega)|(exfalso;simp_all;done))
 simp[-Az];refine Gc (fun f=>n2 c=true) (fun Q' hn hr=>?_) (fun f hI=>?_)
 . clear f1 f2 f4 fin5;simp
   repeat' (first |(refine C3 (fun hb=>?_) (fun hb=>?_)<;>(try simp only[bM]at hb)<;>simp[hb])|(refine Em (fun hb=>?_) (fun hb=>?_)<;>(try simp only[bM]at hb)<;>simp[hb]))
   all_goals first
    |(refine hr _ _ ?_;have e:=f3 (by clear hn hr hQ;(try simp only[Aw,Bj]at *); first |(simp[*,n2]; done)|(exfalso;omega)|(exfalso;simp_all;done)); simp;refine hQ ?_;simp[e]; done)
    |(refine hn _ Ab ?_;clear hn hr hQ;(try simp only[Aw,Bj]at *); first |(simp[*,n2]; done)|(exfalso;omega)|(exfalso;simp_all;done))
 simp[-Az];refine Gc (fun f=>n3 c=true) (fun Q' hn hr=>?_) (fun f hI=>?_)
 . clear f1 f2 f3 fin5;simp
   repeat' (first |(refine C3 (fun hb=>?_) (fun hb=>?_)<;>(try simp only[bM]at hb)<;>simp[hb])|(refine Em (fun hb=>?_) (fun hb=>?_)<;>(try simp only[bM]at hb)<;>simp[hb])|(refine Fh (Bk8 c.s) Ab Ab Ab ?_;simp))
   all_goals first
    |(refine hr _ _ ?_;have e:=f4 (by clear hn hr hQ;(try simp only[Aw,Bj]at *); first |(simp[*,n3]; done)|(exfalso;omega)|(exfalso;simp_all;done)); simp;refine hQ ?_;simp[e]; done)
    |(refine hn _ Ab ?_;clear hn hr hQ;(try simp only[Aw,Bj]at *); first |(simp[*,n3]; done)|(exfalso;omega)|(exfalso;simp_all;done))
 have e:=fin5 ‹_› ‹_› ‹_› ‹_›;clear f1 f2 f3 f4 fin5;simp
 repeat' (first |(refine C3 (fun hb=>?_) (fun hb=>?_)<;>(try simp only[bN]at hb)<;>simp[hb])|(refine Em (fun hb=>?_) (fun hb=>?_)<;>(try simp only[bN]at hb)<;>simp[hb])|(refine Fh (Aei c.op) Ab Ab (by simp[*]) ?_;simp)|(refine Fh (Xz c.k) Ab Ab (by simp[Ba,Df,Kd.l, *]) ?_;simp))
 all_goals (refine hQ ?_;rw[e]; simp[n4, *])
def Bli(c:Cn)(A6:∀x∈c.l,Hc 190 [Ad x] (.bool (C0 x))):Hc 190 [Ad c] (.bool (C0 c)):=by
 have key:=Mu c;refine Hf Bgf fun Am Q hQ=>?_;have hf:=Mv (c:=c) (by simpa[Bl,Ad,AV.fits]using Am);have B5:c.l.length<=1073741824:=hf.2.2.2.2.2.2.2.1;clear Am hf;simp[Ad,Ap c];refine Ca (Bln c) ?_;cases hn:Ht c
 . simp;exact hQ
 rw[hn]at key;simp only[lj]at key;simp;refine WL [] (fun n f h G=>∃k:Nat,k+n=c.l.length/\f 3= .int .i64 k/\(c.l.drop k).all C0=C0 c) (c.l.length) Ab ⟨0,Ab,rfl,by rw[key]; rfl⟩ ?_;rintro n f h G ⟨k,hk,h3,hs⟩ Q2 Aj;simp[h3];by_cases Af:k<c.l.length
 . have hd:=Ct Af;simp[Af];refine Ca (A6 c.l[k] (Cy _)) ?_;cases hb:C0 c.l[k]
   . have e:C0 c=false:=by rw[<- hs,hd,Er,hb]; rfl
     simp;refine Aj (Lr ?_);simp;exact hQ (by simp[e])
   simp[Au (n:=(k:Int)+1) Aa Aa];refine Aj (Ln h ?_);refine⟨k+1,Aa,Ab,?_⟩;rw[<- hs,hd,Er,hb]; rfl
 have e:C0 c=true:=by rw[<- hs,Cm Aa]; rfl
 simp[Af];refine Aj (Lx ?_);simp;exact hQ (by simp[e])
def Axv(c:Cn):Hc 190 [Ad c] (.bool (C0 c)):=
 Bli c fun x _=>Axv x
termination_by SizeOf.sizeOf c
decreasing_by exact Cn.lt_l ‹_›
def Lw(c:Cn):Hc 110 [Ad c] (.bool (Ar c)):=by
 refine Hg Bgb fun Q hQ=>?_;have e:Ar c=((decide (Al c<=20000)&&decide (Bo c<=400))&&C0 c):=by rw[Ar,Ya]
 simp[Ad];refine Ca (Blf c) ?_;cases h:(decide (Al c<=20000)&&decide (Bo c<=400))
 . simp;exact hQ
 simp;refine Ca (Axv c) ?_;simp;exact hQ
def Brv(c:Cn)(hc:Al c<=1000000000000):Hc 241 [Ad c] (.bool !Ar c):=by
 refine Hg Bj5 fun Q hQ=>?_;simp[Ad];refine Ca (Lc c hc) ?_;simp;exact hQ
def Brw(l:Ax)(hc:∀x∈l,Al x<=1000000000000):Hc 166 [.sl .none (l.map Ag)] (.bool (l.all Ar)):=by
 have h:=U9 l (fun x=>!Ar x) 241 fun x hx=>Brv x (hc x hx);rw[Rs]at h;refine Hg Bj4 fun Q hQ=>?_;simp;refine Ca h ?_;simp;exact hQ
def xd(s:Sm):Hc 326 [An s] (.bool (Ng s.op)):=by
 refine Hg Bif fun Q hQ=>?_;simp[An,Av s]
 repeat' (first |(refine C3 (fun hb=>?_) (fun hb=>?_)<;>(try simp only[bN]at hb)<;>simp[hb,Ng])|(refine Em (fun hb=>?_) (fun hb=>?_)<;>(try simp only[bN]at hb)<;>simp[hb]))
 all_goals exact hQ (by simp[*,Ng])
def wg(s:Sm):Hc 276 [An s] (.bool (Ng s.op)):=by
 refine Hg Bg8 fun Q hQ=>?_;simp[An,Av s]
 repeat' (first |(refine C3 (fun hb=>?_) (fun hb=>?_)<;>(try simp only[bN]at hb)<;>simp[hb,Ng])|(refine Em (fun hb=>?_) (fun hb=>?_)<;>(try simp only[bN]at hb)<;>simp[hb]))
 all_goals exact hQ (by simp[*,Ng])
def Hq(label:List UInt8)(s:Sm):Bool:=match Rk label with
 |none=>false
 |some (k,name)=>if k=1 then decide (s.op=1)else if k=2 then decide (s.op=2)else if k=3 then decide (s.op=3)&&decide (s.s=name)else if k=4 then Ng s.op else decide (s.op=4)
def Bow(label:Bu)(s:Sm):Hc 327 [.str label,An s] (.bool (Hq label s)):=by
 refine Hg Bh9 fun Q hQ=>?_;simp[An,Av s];refine Fh (A92 label) Ab (Bp3 _ 0) Ab ?_
 cases h:Rk label with
 |none=>
  simp[dz]
  exact hQ (by simp[Hq,h])
 |some p=>
  obtain⟨k,name⟩:=p;simp[dz];by_cases h1:k=1
  . simp[h1];exact hQ (by simp[Hq,h,h1])
  by_cases h2:k=2
  . simp[h2];exact hQ (by simp[Hq,h,h2])
  by_cases h3:k=3
  . simp[h3];by_cases h5:s.op=3
    . simp[h5];exact hQ (by simp[Hq,h,h3,h5])
    simp[h5];exact hQ (by simp[Hq,h,h3,h5])
  by_cases h4:k=4
  . simp[h4];refine Ca (xd s) ?_;simp;exact hQ (by simp[Hq,h,h4])
  simp[h1,h2,h3,h4];exact hQ (by simp[Hq,h,h1,h2,h3,h4])
def A05(s:List UInt8):∀(l:List Int) (k:Int) (n:List UInt8),Wc s l=some (k,n)->k∈l
 | [],k,n,h=>by cases h
 |x::xs,k,n,h=>by
  rw[Wc]at h;split at h
  . simp only[Ay,Cg]at h;simp[h.1]
  exact List.mem_cons_of_mem _ (A05 s xs k n h)
def Bl0(label:Bu)(s:Sm):Hc 279 [.str label,An s] (.bool (Hq label s)):=by
 refine Hg Bg5 fun Q hQ=>?_;simp[An,Av s];refine Fh (Bk3 label) Ab (Bp4 _ 0) Ab ?_
 cases h:Rk label with
 |none=>
  simp[d5]
  exact hQ (by simp[Hq,h])
 |some p=>
  obtain⟨k,name⟩:=p;have hk:=A05 label _ k name h;simp[d5];by_cases h1:k=1
  . simp[h1];exact hQ (by simp[Hq,h,h1])
  by_cases h2:k=2
  . simp[h2];exact hQ (by simp[Hq,h,h2])
  by_cases h3:k=3
  . simp[h3];by_cases h5:s.op=3
    . simp[h5];exact hQ (by simp[Hq,h,h3,h5])
    simp[h5];exact hQ (by simp[Hq,h,h3,h5])
  by_cases h4:k=4
  . simp[h4];refine Ca (wg s) ?_;simp;exact hQ (by simp[Hq,h,h4])
  have h5:k=5:=by simpa[h1,h2,h3,h4]using hk
  simp[h5];exact hQ (by simp[Hq,h,h5])
def Fg(c:Cn):Bool:=decide (c.op=0)&&(decide (c.n=0)&&(decide (c.s=[])&&(decide (c.k.l=[])&&(decide (c.names=[])&&decide (c.l=[])))))
def Bl1(c:Cn):Hc 273 [Ad c] (.bool (Fg c)):=by
 refine Hg Bg9 fun Q hQ=>?_;simp[Ad,Ap c]
 repeat' (first |(refine C3 (fun hb=>?_) (fun hb=>?_)<;>(try simp only[bN]at hb)<;>simp[hb,Hu])|(refine Em (fun hb=>?_) (fun hb=>?_)<;>(try simp only[bN]at hb)<;>simp[hb,Hu]))
 all_goals exact hQ (by simp[Fg, *])
def mv{l:List α}(h:l.length=2):∃a b,l=[a,b]:=by
 match l,h with
 | [a,b],_=>exact⟨a,b,rfl⟩
def tj{l:List α}(h:l.length=1):∃a,l=[a]:=by
 match l,h with
 | [a],_=>exact⟨a,rfl⟩
def Hh(s:Sm):Bool:=
 if s.op=1\/s.op=2\/s.op=3 then decide (s.l=[])else if s.op=4 then(match s.l with | [a]=>Ng a.op|_=>false)else if s.op=6 then(match s.l with | [a,b]=>Ng a.op&&Ng b.op|_=>false)
 else if s.op=5 then decide (s.names.length<=1000)&&(asc s.names&&Cs Hq s.names s.l)else false
def Bo1(s:Sm):Hc 287 [An s] (.bool (Hh s)):=by
 have key:∀b,Hh s=b->Hh s=b:=fun _ h=>h;unfold Hh at key;refine Hf Bii fun Am Q hQ=>?_;have hf:=Rj (c:=s) (by simpa[Bl,An,AV.fits]using Am);have B5:s.l.length<=1073741824:=hf.2.2.2.2.1;have hnn:s.names.length<=1073741824:=hf.2.2.2.1;clear Am hf key;by_cases h1:s.op=1
 . simp[An,Av s,h1];exact hQ (by simp[Hh,h1])
 by_cases h2:s.op=2
 . simp[An,Av s,h2];exact hQ (by simp[Hh,h2])
 by_cases h3:s.op=3
 . simp[An,Av s,h3];exact hQ (by simp[Hh,h3])
 by_cases h4:s.op=4
 . simp[An,Av s,h4];by_cases hl:s.l.length=1
   . obtain⟨a,ha⟩:=tj hl;simp[ha];refine Ca (xd a) ?_;simp;exact hQ (by simp[Hh,h4,ha])
   have Ci:¬(s.l.length:Int)=1:=by omega
   have e:Hh s=false:=by
    rcases hs:s.l with _|⟨a,_|⟨b,r⟩⟩
    . simp[Hh,h4,hs]
    . rw[hs]at hl;simp at hl
    simp[Hh,h4,hs]
   simp[Ci];exact hQ
 by_cases h6:s.op=6
 . simp[An,Av s,h6];by_cases hl:s.l.length=2
   . obtain⟨a,b,ha⟩:=mv hl;simp[ha];refine Ca (xd a) ?_;cases hm:Ng a.op
     . simp;exact hQ (by simp[Hh,h6,ha,hm])
     simp;refine Ca (xd b) ?_;simp;exact hQ (by simp[Hh,h6,ha,hm])
   have Ci:¬(s.l.length:Int)=2:=by omega
   have e:Hh s=false:=by
    rcases hs:s.l with _|⟨a,_|⟨b,_|⟨c,r⟩⟩⟩
    . simp[Hh,h6,hs]
    . simp[Hh,h6,hs]
    . rw[hs]at hl;simp at hl
    simp[Hh,h6,hs]
   simp[Ci];exact hQ
 by_cases h5:s.op=5
 . have key:Hh s=(decide (s.names.length<=1000)&&(asc s.names&&Cs Hq s.names s.l)):=by simp[Hh,h5]
   by_cases ha:s.l.length=s.names.length
   case neg=>
    have Y0:¬(s.l.length:Int)=s.names.length:=Aa;have e:Hh s=false:=by rw[key,Vq _ _ _ Aa]; simp
    simp[An,Av s,h5,Hu,Y0];exact hQ (by simp[e])
   by_cases hb:s.names.length<=1000
   case neg=>
    have hb':(1000:Int)<s.names.length:=Aa;have e:Hh s=false:=by rw[key]; simp[hb]
    simp[An,Av s,h5,Hu,ha,hb'];exact hQ
   have hb':¬(1000:Int)<s.names.length:=Aa;simp[An,Av s,h5,Hu,ha,hb'];refine Ca (uo s.names) ?_;cases hc:asc s.names
   . have e:Hh s=false:=by rw[key,hc]; simp
     simp;exact hQ
   have key2:Hh s=Cs Hq s.names s.l:=by rw[key,hc]; simp[hb]
   simp[Hu];refine WL [] (fun n f h G=>∃k:Nat,k+n=s.names.length/\f 72= .int .i64 k/\Cs Hq (s.names.drop k) (s.l.drop k)=Hh s) (s.names.length) Ab ⟨0,Ab,rfl,by rw[key2]; rfl⟩ ?_;rintro n f h G ⟨k,hk,h72,hs⟩ Q2 Aj;simp[h72];by_cases Af:k<s.names.length
   . have Gm:k<s.l.length:=by omega
     have hd:=Ct Af;have Dy:=Ct Gm;have hg:=Afv s.names k Af;simp[Af,hg,Gm];refine Ca (Bow s.names[k] s.l[k]) ?_;cases hv:Hq s.names[k] s.l[k]
     . have e:Hh s=false:=by rw[<- hs,hd,Dy]; simp[Cs,hv]
       simp;refine Aj (Lr ?_);simp;exact hQ (by simp[e])
     simp[Au (n:=(k:Int)+1) Aa Aa];refine Aj (Ln h ?_);refine⟨k+1,Aa,Ab,?_⟩;rw[<- hs,hd,Dy]; simp[Cs,hv]
   have e:Hh s=true:=by rw[<- hs,Cm Aa,Cm Aa]; simp[Cs]
   simp[Af];refine Aj (Lx ?_);simp;exact hQ (by simp[e])
 simp[An,Av s,h1,h2,h3,h4,h5,h6];exact hQ (by simp[Hh,h1,h2,h3,h4,h5,h6])
end
def m1(s:Sm):Bool:=Hh s && !(!decide (s.op=5)&&decide (0<s.names.length))
def m2(s:Sm):Bool:=if Dr s.op=true then Ar s.con else Gd s.con A3
def m3(s:Sm):Bool:=if s.op=2 then Eu s.k else decide (¬ 0<s.k.l.length)
def m4(s:Sm):Bool:=if s.op=3 then He s.s 2 else decide (s.s=[])
def m5(s:Sm):Bool:=if s.op=4 then decide (s.n=0)&&(J1 s.ks&&decide (s.more=[]))else if s.op=6 then J1 s.ks&&(J1 s.more&&(decide (s.n=0)||(decide (s.n=1)&&decide (s.more=[]))))
 else decide (s.n=0)&&(decide (s.ks=[])&&decide (s.more=[]))
def Cp(s:Sm):Bool:=m1 s&&(m2 s&&(m3 s&&(m4 s&&m5 s)))
section
attribute [local simp] Cb Cq
def Bad{s:Bu}{q:Int}(h:He s q=true):1<=s.length/\s.length<=24/\s.all (fun c=>Lo c.toNat)=true:=by
 simp only[He,Oq,Bb,Aw]at h;exact⟨h.1.1.1,h.1.1.2,h.1.2⟩
def A98{n:Int}(h:Lo n=true):(!(Dt n==0))=true:=by
 unfold Lo at h;rcases rz n with hc|hc|hc|hc|hc|hc<;>simp[hc]at h ⊢
def A87{k:Int}{s:Bu}(h:Od k s=true):∃q,He s q=true:=by
 unfold Od at h;split at h
 . simp only[Uu,Bb]at h;exact⟨1,h.1⟩
 exact⟨2,h⟩
def A06(s:List UInt8):∀(l:List Int) (k:Int) (n:List UInt8),Wc s l=some (k,n)->Q0 s (Bz k)=true/\n=s.drop (Bz k).length/\Od k n=true
 | [],k,n,h=>by cases h
 |x::xs,k,n,h=>by
  rw[Wc]at h;split at h
  . rename_i hc;simp only[Ay,Cg]at h;obtain⟨rfl,rfl⟩:=h;simp only[Bb]at hc;exact⟨hc.1,rfl,hc.2⟩
  exact A06 s xs k n h
def Bna(k:Int):(Bz k).length<=5/\(Bz k).all (fun c=>!(Dt c.toNat==0))=true:=by
 unfold Bz
 (repeat' split)<;>exact⟨Di,Di⟩
def A86{label:Bu}{s:Sm}(h:Hq label s=true):Ff label=true:=by
 unfold Hq at h
 cases hs:Rk label with
 |none=>rw[hs]at h;cases h
 |some p=>
  obtain⟨k,n⟩:=p;obtain⟨h1,h2,h3⟩:=A06 label _ k n hs;obtain⟨q,h4⟩:=A87 h3;obtain⟨a1,a2,a3⟩:=Bad h4;obtain⟨b1,b2⟩:=Bna k;simp only[Q0,Bb,T7,Aw]at h1
  have e:label=Bz k++n:=by
   have:=Ahc (Bz k).length label;rw[h1.1]at this;rw[h2]; exact this.symm
  have hl:label.length=(Bz k).length+n.length:=by rw[e]; simp
  simp only[Ff,Bb,Aw];refine⟨⟨Aa,Aa⟩,?_⟩;rw[e,Wm,b2,lj,Pn];intro c hc;rw[Pn]at a3;exact A98 (a3 c hc)
def q1(s:Sm):Bool:=!(decide (s.op<1)||decide (6<s.op))
def q2(s:Sm):Bool:=if Dr s.op=true then !Fg s.con&&Ar s.con else Fg s.con
def q5(s:Sm):Bool:=J1 s.ks&&(J1 s.more&&(!(decide (0<s.ks.length)&&(!decide (s.op=4) && !decide (s.op=6))) && !(decide (0<s.more.length)&&(!decide (s.op=6)||decide (s.n=1)))))
def q6(s:Sm):Bool:=!(!decide (s.n=0)&&(!decide (s.op=6) || !decide (s.n=1))) && !(decide (0<s.names.length) && !decide (s.op=5))
def q7(s:Sm):Bool:=if s.op=4 then(match s.l with | [a]=>Ng a.op|_=>false)else if s.op=6 then(match s.l with | [a,b]=>Ng a.op&&Ng b.op|_=>false)
 else if s.op=5 then decide (s.names.length<=1000)&&(asc s.names&&Cs Hq s.names s.l)else decide (s.l=[])
def Adr(c:Cn):Fg c=Gd c A3:=by
 cases c with |mk o n s k ns l=>
 cases k with |mk kl=>
 cases kl<;>cases l<;>cases ns<;>simp[Fg,A3,Gd,Vn,Kg,V1,Cn.op,Cn.n,Cn.s,Cn.k,Cn.names,Cn.l,Kd.l,Ya]
 all_goals (by_cases ho:o=0<;>by_cases hn:n=0<;>by_cases hs:s=[]<;>simp[ho,hn,hs])
def Bsj{c:Cn}(h:Ar c=true):Fg c=false:=by
 simp only[Ar,Bb]at h;have h2:=h.2.2;rw[Mu,Av8]at h2;simp only[Bb]at h2;have h3:=h2.1.1;simp only[r1,Mn,ef,Bj]at h3;have:¬c.op=0:=Aa;simp[Fg,this]
def Adt(s:Sm):Cp s=(q1 s&&(q2 s&&(m3 s&&(m4 s&&(q5 s&&(q6 s&&q7 s)))))):=by
 have e2:m2 s=q2 s:=by
  unfold m2 q2;rw[<- Adr];split
  . cases hv:Ar s.con
    . simp
    rw[Bsj hv]; rfl
  rfl
 have Nr:J1 []=true:=Bc
 have e:(m1 s&&m5 s)=(q1 s&&(q5 s&&(q6 s&&q7 s))):=by
  unfold m1 m5 q1 q5 q6 q7 Hh;generalize s.op=op;generalize s.n=n;generalize s.l=l;generalize s.names=ns;generalize s.ks=ks;generalize s.more=more;by_cases h:op<1\/6<op
  . have h2:(!(decide (op<1)||decide (6<op)))=false:=by simp;omega
    rw[h2,Ac Aa,Ac Aa,Ac Aa,Ac Aa];simp
  have h2:(!(decide (op<1)||decide (6<op)))=true:=by simp;omega
  rw[h2];obtain rfl|rfl|rfl|rfl|rfl|rfl:op=1\/op=2\/op=3\/op=4\/op=5\/op=6:=Aa
  all_goals (by_cases h0:n=0<;>by_cases h1:n=1<;>cases ns<;>cases ks<;>cases more<;>simp[Nr,h0,h1,Agt,Ya])
  all_goals (rcases l with _|⟨a,_|⟨b,_|⟨c,l⟩⟩⟩<;>simp[Agt])
 have e1:Cp s=((m1 s&&m5 s)&&(m2 s&&(m3 s&&m4 s))):=by
  rw[Cp]; cases m1 s<;>cases m2 s<;>cases m3 s<;>cases m4 s<;>cases m5 s<;>rfl
 rw[e1,e,e2];cases q1 s<;>cases q2 s<;>cases m3 s<;>cases m4 s<;>cases q5 s<;>cases q6 s<;>cases q7 s<;>rfl
end
def Dd:Sm->Prop
 | .mk _ _ _ c _ _ _ _ l=>Al c<=1000000000000/\∀x∈l,Dd x
def Ju(s:Sm):Dd s↔Al s.con<=1000000000000/\∀x∈s.l,Dd x:=by
 cases s;rw[Dd]; rfl
mutual
def mS:Sm->Int->Int->Int×Bool
 | .mk o n s c k ks more names l,left,depth=>if left<=0\/400<depth\/Cp (.mk o n s c k ks more names l)=false then(0,false)else F7 l left depth (1+(if Dr o=true then(Al c:Int)else 0))
def F7:List Sm->Int->Int->Int->Int×Bool
 | [],left,_,n=>(n,decide (n<=left))
 |x::xs,left,depth,n=>if(mS x (left-n) (depth+1)).2=true then F7 xs left depth (n+(mS x (left-n) (depth+1)).1)else(0,false)
end
def vj(s:Sm)(left depth:Int):mS s left depth=if left<=0\/400<depth\/Cp s=false then(0,false)else F7 s.l left depth (1+(if Dr s.op=true then(Al s.con:Int)else 0)):=by
 cases s;rw[mS]; rfl
mutual
def cj:∀(s:Sm) (left depth:Int),(mS s left depth).2=true->1<=(mS s left depth).1/\(mS s left depth).1<=left
 | .mk o n s c k ks more names l,left,depth,h=>by
   rw[mS]at h ⊢;split
   . rename_i hc;rw[Ae hc]at h;cases h
   rename_i hc;rw[Ac hc]at h;exact Avp l left depth _ (by split<;>omega) h
def Avp:∀(l:List Sm) (left depth n:Int),1<=n->(F7 l left depth n).2=true->1<=(F7 l left depth n).1/\(F7 l left depth n).1<=left
 | [],left,depth,n,hn,h=>by simp only[F7,Aw]at h ⊢; omega
 |x::xs,left,depth,n,hn,h=>by
  rw[F7]at h ⊢;split
  . rename_i hc;rw[Ae hc]at h;have:=cj x (left-n) (depth+1) hc;exact Avp xs left depth _ Aa h
  rename_i hc;rw[Ac hc]at h;cases h
end
def Kn{c:Cn}(h:Ar c=true):Al c<=20000:=by
 simp only[Ar,Bb,Aw]at h;exact h.1
def Ads{s:Sm}(h:Cp s=true)(ho:Dr s.op=true):Al s.con<=20000:=by
 simp only[Cp,Bb]at h;have:=h.2.1;rw[m2,Ae ho]at this;exact Kn this
def Cu(s:Sm):Bool:=(mS s 20000 1).2
def K9(s:Sm):Int:=if Cu s=true then(mS s 20000 1).1 else 0
mutual
def cS:Sm->Int->Int->Int
 | .mk o n s c k ks more names l,left,d=>if left<1\/d<1\/Cp (.mk o n s c k ks more names l)=false then -1 else J6 l (left-1-(if Dr o=true then(Al c:Int)else 0)) d
def J6:List Sm->Int->Int->Int
 | [],left,_=>left
 |x::xs,left,d=>if 0<=left then J6 xs (cS x left (d-1)) d else left
end
def cS_eq(s:Sm)(left d:Int):cS s left d=if left<1\/d<1\/Cp s=false then -1 else J6 s.l (left-1-(if Dr s.op=true then(Al s.con:Int)else 0)) d:=by
 cases s;rw[cS]; rfl
def Aba{l:O8}{left d:Int}(h:left<0):J6 l left d=left:=by
 cases l with
 |nil=>rw[J6]
 |cons x xs=>rw[J6,Ac Aa]
mutual
def Aiq:∀(s:Sm) (left d:Int),((mS s left (401-d)).2=true->cS s left d=left-(mS s left (401-d)).1)/\((mS s left (401-d)).2=false->cS s left d<0)
 | .mk o n s c k ks more names l,left,d=>by
   rw[mS,cS];by_cases h:left<1\/d<1\/Cp (.mk o n s c k ks more names l)=false
   . rw[Ae h,Ae (h.imp (fun h=>Aa) (Or.imp_left fun h=>Aa))];exact⟨fun h=>(by cases h),fun _=>Aa⟩
   rw[Ac h,Ac (fun h2=>h (h2.imp (fun h=>Aa) (Or.imp_left fun h=>Aa)))];have:=Ais l left d (1+(if Dr o=true then(Al c:Int)else 0));rw[show left-(1+(if Dr o=true then(Al c:Int)else 0))=left-1-(if Dr o=true then(Al c:Int)else 0) by omega]at this;exact this
def Ais:∀(l:List Sm) (left d n:Int),((F7 l left (401-d) n).2=true->J6 l (left-n) d=left-(F7 l left (401-d) n).1)/\((F7 l left (401-d) n).2=false->J6 l (left-n) d<0)
 | [],left,d,n=>by
   rw[F7,J6];simp only[Aw,Bj]
   exact⟨fun _=>trivial,fun h=>Aa⟩
 |x::xs,left,d,n=>by
  rw[F7];have hx:=Aiq x (left-n) (d-1);rw[show 401-(d-1)=401-d+1 by omega]at hx;by_cases h:(mS x (left-n) (401-d+1)).2=true
  . rw[Ae h,J6];have h2:=cj x _ _ h;rw[Ae Aa,hx.1 h,show left-n-(mS x (left-n) (401-d+1)).1=left-(n+(mS x (left-n) (401-d+1)).1) by omega];exact Ais xs left d _
  rw[Ac h,J6];refine⟨fun h=>(by cases h),fun _=>?_⟩;have h3:=hx.2 (by simpa using h);split
  . rw[Aba h3]; exact h3
  omega
end
def A5n(s:Sm):decide (0<=cS s 20000 400)=Cu s:=by
 have h:=Aiq s 20000 400;rw[show(401:Int)-400=1 by rfl]at h;unfold Cu;cases hb:(mS s 20000 1).2
 . have:=h.2 hb;simpa using this
 have:=cj s _ _ hb;have:=h.1 hb;simp;omega
mutual
def Aip:∀(s:Sm) (left d:Int), -20001<=cS s left d/\(cS s left d<=left\/cS s left d= -1)
 | .mk o n s c k ks more names l,left,d=>by
   rw[cS];split
   . exact⟨Aa,.inr rfl⟩
   rename_i h
   have hz:(if Dr o=true then(Al c:Int)else 0)<=20000/\0<=(if Dr o=true then(Al c:Int)else 0):=by
    split
    . rename_i ho;have:=Ads (s:=.mk o n s c k ks more names l) (by cases hn:Cp (.mk o n s c k ks more names l)<;>simp_all) ho;have h2:Al c<=20000:=this;omega
    omega
   have:=Air l (left-1-(if Dr o=true then(Al c:Int)else 0)) d Aa;omega
def Air:∀(l:List Sm) (left d:Int), -20001<=left->-20001<=J6 l left d/\(J6 l left d<=left\/J6 l left d= -1)
 | [],left,d,h=>by rw[J6]; omega
 |x::xs,left,d,h=>by
  rw[J6];split
  . have h1:=Aip x left (d-1);have h2:=Air xs (cS x left (d-1)) d h1.1;omega
  omega
end
