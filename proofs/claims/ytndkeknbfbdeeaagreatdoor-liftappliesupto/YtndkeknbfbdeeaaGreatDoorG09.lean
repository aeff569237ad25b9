/- A part of the proof that LiftApplies answers true. -/
import Derived.Test.YtndkeknbfbdeeaaGreatDoorG07
import Derived.Test.YtndkeknbfbdeeaaGreatDoorG08
set_option linter.all false
set_option maxHeartbeats 4000000
set_option maxRecDepth 100000
namespace Go.Proofs.YtndkeknbfbdeeaaGreatDoor
open Go
def Aix:AC:=(yy 1 [yB 0,yK z6,yI 0] (zq (yy 4 [yT 6 1,yY 64 [4],yU 5] (zk 6 (yy 3 [zo 7 (.build z6 []),zs 6 2 7,yI 6] .ret) .skip)) (yy 8 [yT 6 1,zs 6 2 8,zI 3 0] .ret)))
def Bde:Fk 255 Aix 9 [.cell 2 true 6,.tmp 3]:=okF
def Alk:AC:=(yy 1 [yB 0,yV ff] (yy 3 [yT 1 1,yC 303 [.tmp 3,zi 20000,zi 400],yn .geq 4 0,zm 2 5] .ret))
def Bfv:Fk 258 Alk 6 [.tmp 2]:=okF
def Al5:AC:=(yy 3 [yB 0,zI 6 0] (zq (yy 9 [ym 2,yn .gtr 9 400] (zk 10 (yy 11 [ym 1,zm 6 11] .ret) .skip)) (yy 7 [yI 1] (zq (yy 8 [yI 0] (.block 0 (.loop (zq (yy 12 [ym 8,yF 5 3,yL 1 13,yN 14,yS 12 15,ym 16,yM 7 17 tt,yM 1 17 tt,yv .lss 18 19 17 tt,yA 17 20] (zk 21 .skip (.exit 0))) (zq (.block 1 (yz 24 [ym 7,yF 5 3,yL 1 25,ym 8,yJ 6 26 27,yT 6 28,ym 1,ym 7,yr .sub 30 31,ym 2,yP 33 1,yY 259 [29,32,34],yr .add 24 35,zm 7 36])) (yz 22 [ym 8,yP 22 1,zm 8 23])))))) (yy 37 [ym 7,zm 6 37] .ret)))))
def Bgg:Fk 259 Al5 38 [.tmp 6]:=okF
def Amb:AC:=(yy 1 [yB 0,yV ff] (zq (yy 4 [yF 0 1,yL 1 4,yn .lss 5 1,ym 6,yH 0 1 7 ff,yG 1 8 7 ff,yu .gtr 9 13 7 ff,yO 7 10] (zk 11 (yy 2 [yV ff] .ret) .skip)) (yy 12 [yF 0 1,yL 1 12,yY 304 [13],zm 3 14] (zq (yy 15 [ym 3,yn .geq 15 0,ym 16,yH 5 1 17 tt,yG 1 18 17 tt,yh 19 17 tt,yM 3 17 tt,yv .neq 20 21 17 tt,yM 22 17 tt,yH 4 1 23 ff,yG 1 24 23 ff,yh 25 23 ff,yu .neq 26 0 23 ff,yR 23 27 17 tt,yA 17 28,ym 29,yM 3 30 ff,yu .lss 31 0 30 ff,yM 32 30 ff,yH 5 1 33 tt,yG 1 34 33 tt,yh 35 33 tt,yH 4 1 33 tt,yG 1 37 33 tt,yh 38 33 tt,yv .neq 36 39 33 tt,yM 40 33 tt,yH 4 1 41 ff,yG 1 42 41 ff,yZ 305 [43] 41 ff,yj 44 41 ff,yR 41 45 33 tt,yQ 33 46 30 ff,yO 30 47] (zk 48 (yy 2 [yV ff] .ret) .skip)) (zq (yy 49 [yF 0 1,yL 1 49,yE 50 1,ym 51,yH 0 1 52 ff,yG 1 53 52 ff,yu .eql 54 3 52 ff,yO 52 55] (zk 56 (yy 57 [yF 1 1,yL 1 57,yn .lss 58 0,ym 59,yH 1 1 60 ff,yG 1 61 60 ff,yu .gtr 62 20000 60 ff,yO 60 63] (zk 64 (yy 2 [yV ff] .ret) .skip)) (yy 65 [yF 1 1,yL 1 65,yn .neq 66 0] (zk 67 (yy 2 [yV ff] .ret) .skip)))) (zq (yy 68 [yF 0 1,yL 1 68,yE 69 2,ym 70,yH 2 1 71 tt,yG 1 72 71 tt,yZ 306 [73] 71 tt,yj 74 71 tt,yA 71 75,ym 76,yH 0 1 77 ff,yG 1 78 77 ff,yu .neq 79 2 77 ff,yM 80 77 ff,yH 2 1 81 tt,yG 1 82 81 tt,yw (.bin .neq (.tmp 83) (.cst (.str []))) 81 tt,yQ 81 84 77 ff,yO 77 85] (zk 86 (yy 2 [yV ff] .ret) .skip)) (zq (yy 87 [yF 0 1,yL 1 87,yE 88 2,ym 89,yH 0 1 90 ff,yG 1 91 90 ff,yZ 266 [92] 90 ff,yO 90 93] (zk 94 (yy 95 [yF 3 1,yT 1 95,yY 258 [96],zm 2 97] .ret) .skip)) (yy 98 [yF 3 1,yF 0 98,yL 1 99,yN 100,yE 101 0,zm 2 102] .ret))))))))
def Bgm:Fk 260 Amb 103 [.tmp 2]:=okF
def Amw:AC:=(yy 1 [yB 0,yV ff] (zq (yy 3 [yF 0 1,yL 1 3] (.block 0 (yy 5 [zE 6 4 1,ym 6] (zk 5 (yy 7 [yF 1 1,yL 1 7,yn .geq 8 0,ym 9,yH 1 1 10 tt,yG 1 11 10 tt,yu .leq 12 20000 10 tt,yA 10 13,zm 2 14] .ret) (yy 16 [yE 4 2,zm 15 16] (zk 15 (yy 17 [yF 1 1,yL 1 17,yn .geq 18 (-4503599627370496),ym 19,yH 1 1 20 tt,yG 1 21 20 tt,yu .leq 22 4503599627370496 20 tt,yA 20 23,zm 2 24] .ret) (yy 25 [zE 26 4 18,ym 26] (zk 25 (zq (yx 27 [yF 1 1,yL 1 27,yY 307 [28],yn .gtr 29 0,ym 30,yH 17 1 31 tt,yG 1 32 31 tt,yh 33 31 tt,yH 1 1 31 tt,yG 1 35 31 tt,yZ 307 [36] 31 tt,yv .eql 34 37 31 tt,yA 31 38,zm 2 39] [[],[0],[1],[2],[3,2],[4],[5,4],[6,4],[4],[8,4],[9,4,4],[7,10,4],[4,11],[12,10,0,1,2,3,4,5,6,7,8,9,10,11,12]]) .ret) (yy 40 [zE 41 4 19,ym 41] (zk 40 (yy 42 [yF 1 1,yL 1 42,yn .geq 43 1,ym 44,yH 1 1 45 tt,yG 1 46 45 tt,yu .leq 47 1000000 45 tt,yA 45 48,zm 2 49] .ret) .skip)))))))))) (yy 50 [yF 1 1,yL 1 50,yE 51 0,zm 2 52] .ret)))
def Bg1:Fk 261 Amw 53 [.tmp 2]:=okF
def Am0:AC:=(yy 1 [yB 0,yV ff] (zq (yy 3 [yF 0 1,yL 1 3] (.block 0 (yy 5 [zE 6 4 3,ym 6] (zk 5 (yy 7 [yF 2 1,yL 1 7,yo (.slen (.tmp 8)),yn .leq 9 16384,zm 2 10] .ret) (zq (yy 11 [zE 12 4 11,ym 12] (zk 11 .skip (yz 11 [zE 13 4 12,ym 13]))) (zk 11 (yy 14 [yF 2 1,yL 1 14,yY 278 [15],zm 2 16] .ret) .skip)))))) (yy 17 [yF 2 1,yL 1 17,yo (.bin .eql (.tmp 18) (.cst (.str []))),zm 2 19] .ret)))
def Bg4:Fk 262 Am0 20 [.tmp 2]:=okF
def Amu:AC:=(yy 2 [yV ff] (zq (yy 3 [yI 0] (.block 0 (.loop (zq (yy 4 [ym 3,ym 0,yN 5,yS 4 6] (zk 7 .skip (.exit 0))) (zq (.block 1 (yy 10 [ym 0,ym 3,yJ 1 10 11,yL 1 12,yY 278 [13],yU 14] (zk 15 (yy 2 [yV ff] .ret) .skip))) (yz 8 [ym 3,yP 8 1,zm 3 9])))))) (yy 16 [ym 0,yN 16,yn .leq 17 1000,ym 18,yM 0 19 tt,yZ 277 [20] 19 tt,yA 19 21,zm 2 22] .ret)))
def Bg0:Fk 263 Amu 23 [.tmp 2]:=okF
def Amx:AC:=(yy 2 [yI 0] (zq (yy 3 [ym 0] (.block 0 (zq (yy 4 [zE 5 3 1,ym 5] (zk 4 .skip (yy 4 [zE 6 3 2,ym 6] (zk 4 .skip (yy 4 [zE 7 3 3,ym 7] (zk 4 .skip (yz 8 [yE 3 19,zm 4 8]))))))) (zk 4 (yy 2 [yI 0] .ret) (zq (yy 9 [zE 10 3 4,ym 10] (zk 9 .skip (yy 9 [zE 11 3 6,ym 11] (zk 9 .skip (yy 9 [zE 12 3 7,ym 12] (zk 9 .skip (yy 9 [zE 13 3 8,ym 13] (zk 9 .skip (yy 9 [zE 14 3 11,ym 14] (zk 9 .skip (yy 9 [zE 15 3 12,ym 15] (zk 9 .skip (yy 16 [yE 3 14,zm 9 16] (zk 9 .skip (yy 17 [yE 3 15,zm 9 17] (zk 9 .skip (yz 9 [zE 18 3 16,ym 18]))))))))))))))))) (zk 9 (yy 2 [yI 1] .ret) (zq (yy 19 [zE 20 3 5,ym 20] (zk 19 .skip (yy 19 [zE 21 3 9,ym 21] (zk 19 .skip (yz 19 [zE 22 3 17,ym 22]))))) (zk 19 (yy 2 [yI 2] .ret) .skip)))))))) (yy 2 [yI (-1)] .ret)))
def Bg2:Fk 264 Amx 23 [.tmp 2]:=okF
def Aml:AC:=(yy 1 [yB 0,yV ff] (yy 3 [yF 0 1,yL 1 3,yE 4 0,ym 5,yH 1 1 6 tt,yG 1 7 6 tt,yu .eql 8 0 6 tt,yA 6 9,ym 10,yH 2 1 11 tt,yG 1 12 11 tt,yw (.bin .eql (.tmp 13) (.cst (.str []))) 11 tt,yA 11 14,ym 15,yH 3 1 16 tt,yH 0 17 16 tt,yG 1 18 16 tt,yh 19 16 tt,yu .eql 20 0 16 tt,yA 16 21,ym 22,yH 4 1 23 tt,yG 1 24 23 tt,yh 25 23 tt,yu .eql 26 0 23 tt,yA 23 27,ym 28,yH 5 1 29 tt,yG 1 30 29 tt,yh 31 29 tt,yu .eql 32 0 29 tt,yA 29 33,zm 2 34] .ret))
def Bgu:Fk 265 Aml 35 [.tmp 2]:=okF
def Alo:AC:=(yy 2 [yV ff] (yy 3 [ym 0,yE 3 9,ym 4,yM 0 5 ff,yu .eql 6 10 5 ff,yO 5 7,ym 8,yM 0 9 ff,yu .eql 10 11 9 ff,yO 9 11,ym 12,yM 0 13 ff,yu .eql 14 13 13 ff,yO 13 15,zm 2 16] .ret))
def Bfz:Fk 266 Alo 17 [.tmp 2]:=okF
def Anj:AC:=(yy 3 [yB 0,zK 6 z6] (zq (yy 7 [yI 0] (.block 0 (.loop (zq (yy 9 [ym 7,ym 2,yS 9 10] (zk 11 .skip (.exit 0))) (zq (.block 1 (yz 14 [yo (.build z1 []),yT 6 3,yC 270 [zi 11,.tmp 14,.tmp 15],zs 6 3 16])) (yz 12 [ym 7,yP 12 1,zm 7 13])))))) (yy 17 [yT 6 3,ym 1,yY 117 [17,18],zs 6 3 19] (zq (yy 8 [yI 0] (.block 2 (.loop (zq (yy 20 [ym 8,ym 2,yS 20 21] (zk 22 .skip (.exit 2))) (zq (.block 3 (yz 25 [yF 5 3,yL 1 25,ye 6 26 0,yT 6 27,zs 6 3 28])) (yz 23 [ym 8,yP 23 1,zm 8 24])))))) (yy 29 [yT 6 3,zs 6 6 29] .ret)))))
def Bhi:Fk 267 Anj 30 [.cell 6 true 6]:=okF
def Als:AC:=(yy 2 [yB 0,zI 4 0] (yy 5 [ya] (zq (yy 6 [yI 0] (.block 0 (.loop (zq (yy 7 [ym 6,ym 1,yN 8,yS 7 9] (zk 10 .skip (.exit 0))) (zq (.block 1 (yz 13 [ym 5,ym 1,ym 6,yJ 6 14 15,yT 6 16,yY 60 [17],yo (.buildSl 1 [.int .i64 0] 1 [(0,(.tmp 18))]),yp 1 3 13 19,zm 5 20])) (yz 11 [ym 6,yP 11 1,zm 6 12])))))) (yy 21 [yT 6 2,ym 5,yC 308 [.tmp 21,.tmp 22,zi 0],zm 4 23] .ret))))
def Bf3:Fk 268 Als 24 [.tmp 4]:=okF
def Amf:AC:=(yy 1 [yB 0,yV ff] (zq (yy 4 [yF 0 1,yL 1 4,yn .neq 5 11,ym 6,yH 5 1 7 ff,yG 1 8 7 ff,yw (.iaddr 6 (.tmp 9) (zi 0)) 7 ff,yH 0 10 7 ff,yG 1 11 7 ff,yu .neq 12 12 7 ff,yO 7 13] (zk 14 (yy 2 [yV ff] .ret) .skip)) (yy 15 [yF 5 1,yL 1 15,ye 6 16 0,yF 5 17,yL 1 18,ye 6 19 1,yT 6 20,zK 3 z6,zs 6 3 21] (yy 22 [yF 0 3,yL 1 22,yE 23 1,ym 24,yH 1 3 25 tt,yG 1 26 25 tt,yu .eql 27 0 25 tt,yA 25 28,ym 29,yH 5 1 30 tt,yG 1 31 30 tt,yw (.iaddr 6 (.tmp 32) (zi 0)) 30 tt,yH 5 33 30 tt,yG 1 34 30 tt,yw (.iaddr 6 (.tmp 35) (zi 0)) 30 tt,yg 6 36 30 tt,yD 309 [.tmp 37,zi 0] 30 tt,yj 38 30 tt,yA 30 39,zm 2 40] .ret))))
def Ad4:Fk 269 Amf 41 [.tmp 2]:=okF
def Alp:AC:=(yy 4 [yB 1,yB 2,yK z6] (yy 7 [ym 0,yT 1 4,yT 6 5,yo (.buildSl 6 z6 1 [(0,(.tmp 9))]),yo (.build z6 [(0,(1,(.tmp 7))),(3,(1,(.tmp 8))),(5,(1,(.tmp 10)))]),zs 6 6 11] .ret))
def Bf0:Fk 270 Alp 12 [.cell 6 true 6]:=okF
def Anl:AC:=(yy 5 [yB 2,yK z6] (zq (yy 8 [ym 1,yN 8,yn .sub 9 1,zm 7 10] (.block 0 (.loop (zq (yy 11 [ym 7,yn .geq 11 0] (zk 12 .skip (.exit 0))) (zq (.block 1 (yx 15 [ym 0,ym 1,ym 7,yJ 1 16 17,yT 1 18,yT 6 5,yY 270 [15,19,20],zs 6 5 21] [[],[],[],[1,2],[3],[],[0,4,5],[6,6,0,1,2,3,4,5,6]])) (yz 13 [ym 7,yn .sub 13 1,zm 7 14])))))) (yy 22 [yT 6 5,zs 6 6 22] .ret)))
def Bhk:Fk 271 Anl 23 [.cell 6 true 6]:=okF
def Ann:AC:=(yy 1 [yB 0,yK z6] (zq (yy 7 [yF 0 1,yL 1 7] (.block 0 (yy 9 [zE 10 8 1,ym 10] (zk 9 (yy 11 [yF 3 1,yT 6 11,zs 6 2 12] .ret) (yy 13 [zE 14 8 2,ym 14] (zk 13 (yy 15 [yF 3 1,yT 6 15,yY 310 [16],zK 3 z6,zs 6 3 17] (zq (yx 18 [yF 9 1,yT 1 18,yY 311 [19],yT 6 3,yT 6 3,yY 312 [21,22],yC 270 [zi 9,.tmp 20,.tmp 23],zs 6 2 24] [[],[0],[1],[],[],[3,4,2],[2,5,5],[6,6,0,1,2,3,4,5,6]]) .ret)) (yy 25 [zE 26 8 3,ym 26] (zk 25 (yy 27 [yY 313 [],zs 6 2 27] .ret) (yy 28 [zE 29 8 4,ym 29] (zk 28 (zq (yx 30 [yF 10 1,yL 1 30,yF 13 1,yL 1 32,ye 14 33 0,yT 14 34,yY 272 [35],yC 271 [zi 10,.tmp 31,.tmp 36],zK 4 z6,zs 6 4 37] [[],[0],[],[2],[3],[4],[5],[1,6,6],[],[8,7,7,0,1,2,3,4,5,6,7,8]]) (yy 38 [yT 6 4,yT 6 4,yY 312 [38,39],zs 6 2 40] .ret)) (yy 41 [zE 42 8 6,ym 42] (zk 41 (zq (yx 43 [yF 10 1,yL 1 43,yF 13 1,yL 1 45,ye 14 46 0,yT 14 47,yY 272 [48],yF 11 1,yL 1 50,yF 13 1,yL 1 52,ye 14 53 1,yT 14 54,yY 272 [55],yC 271 [zi 10,.tmp 51,.tmp 56],yY 312 [49,57],yC 271 [zi 9,.tmp 44,.tmp 58],zs 6 2 59] [[],[0],[],[2],[3],[4],[5],[],[7],[],[9],[10],[11],[12,6],[8,13,13],[6,14,14],[1,15,15],[16,16,0,1,2,3,4,5,6,7,8,9,10,11,12,13,14,15,16]]) .ret) .skip)))))))))))) (yy 60 [yF 12 1,yL 1 60,yo (.build z6 [(0,(1,(zi 7))),(4,(1,(.tmp 61)))]),zK 5 z6,zs 6 5 62] (zq (yy 6 [yI 0] (.block 1 (.loop (zq (yy 63 [ym 6,yF 13 1,yL 1 64,yN 65,yS 63 66] (zk 67 .skip (.exit 1))) (zq (.block 2 (yx 70 [yF 5 5,yL 1 70,yF 13 1,yL 1 72,ym 6,yJ 14 73 74,yT 14 75,yY 272 [76],yo (.buildSl 6 z6 1 [(0,(.tmp 77))]),yp 6 28 71 78,yF 5 5,zs 1 80 79] [[],[0],[],[2],[],[3,4],[5],[6],[7],[1,8,7],[0,1,2,3,4,5,6,7,8,9],[10,9,9,0,1,2,3,4,5,6,7,8,9]])) (yz 68 [ym 6,yP 68 1,zm 6 69])))))) (yy 81 [yT 6 5,zs 6 2 81] .ret)))))
def Bhl:Fk 272 Ann 82 [.cell 2 true 6]:=okF
def Am6:AC:=(yy 1 [yB 0,yV ff] (yy 3 [yF 0 1,yL 1 3,yE 4 0,ym 5,yH 1 1 6 tt,yG 1 7 6 tt,yu .eql 8 0 6 tt,yA 6 9,ym 10,yH 2 1 11 tt,yG 1 12 11 tt,yw (.bin .eql (.tmp 13) (.cst (.str []))) 11 tt,yA 11 14,ym 15,yH 3 1 16 tt,yH 0 17 16 tt,yG 1 18 16 tt,yh 19 16 tt,yu .eql 20 0 16 tt,yA 16 21,ym 22,yH 4 1 23 tt,yG 1 24 23 tt,yh 25 23 tt,yu .eql 26 0 23 tt,yA 23 27,ym 28,yH 5 1 29 tt,yG 1 30 29 tt,yh 31 29 tt,yu .eql 32 0 29 tt,yA 29 33,zm 2 34] .ret))
def Bg9:Fk 273 Am6 35 [.tmp 2]:=okF
def Ala:AC:=(yy 2 [yV ff] (yy 3 [ym 0,yY 314 [3],ym 4,yM 0 5 tt,yw (.sidx (.tmp 6) (zi 0)) 5 tt,yZ 315 [7] 5 tt,yA 5 8,zm 2 9] .ret))
def Bfl:Fk 274 Ala 10 [.tmp 2]:=okF
def Anf:AC:=(yy 2 [yV ff] (yy 3 [ym 0,yN 3,yn .leq 4 1000,ym 5,yM 0 6 tt,yZ 188 [7] 6 tt,yA 6 8,zm 2 9] .ret))
def Bhg:Fk 275 Anf 10 [.tmp 2]:=okF
def Am5:AC:=(yy 1 [yB 0,yV ff] (yy 3 [yF 0 1,yL 1 3,yE 4 5,ym 5,yH 0 1 6 ff,yG 1 7 6 ff,yu .eql 8 6 6 ff,yO 6 9,zm 2 10] .ret))
def Bg8:Fk 276 Am5 11 [.tmp 2]:=okF
def Ak1:AC:=(yy 2 [yV ff] (zq (yy 3 [yI 1] (.block 0 (.loop (zq (yy 4 [ym 3,ym 0,yN 5,yS 4 6] (zk 7 .skip (.exit 0))) (zq (.block 1 (zq (yx 10 [ym 0,ym 3,yn .sub 11 1,yJ 1 10 12,yL 1 13,ym 0,ym 3,yJ 1 15 16,yL 1 17,yr .geq 14 18] [[],[],[1],[0,2],[3],[],[],[5,6],[7],[4,8]]) (zk 19 (yy 2 [yV ff] .ret) .skip))) (yz 8 [ym 3,yP 8 1,zm 3 9])))))) (yy 2 [yV tt] .ret)))
def Bfc:Fk 277 Ak1 20 [.tmp 2]:=okF
def Ak8:AC:=(yy 2 [yV ff] (zq (yy 3 [yI 0] (.block 0 (.loop (zq (yy 4 [ym 3,ym 0,yo (.slen (.tmp 5)),yS 4 6] (zk 7 .skip (.exit 0))) (zq (.block 1 (yy 10 [ym 0,ym 3,yo (.sidx (.tmp 10) (.tmp 11)),yY 316 [12],yU 13,ym 14,yM 0 15 tt,yM 3 15 tt,yw (.sidx (.tmp 16) (.tmp 17)) 15 tt,yw (.bin .neq (.tmp 18) (.cst (.int .u8 46))) 15 tt,yA 15 19] (zk 20 (yy 2 [yV ff] .ret) .skip))) (yz 8 [ym 3,yP 8 1,zm 3 9])))))) (yy 21 [ym 0,yo (.slen (.tmp 21)),yn .geq 22 1,ym 23,yM 0 24 tt,yw (.slen (.tmp 25)) 24 tt,yu .leq 26 48 24 tt,yA 24 27,zm 2 28] .ret)))
def Bfj:Fk 278 Ak8 29 [.tmp 2]:=okF
def Am2:AC:=(yy 3 [yB 1,yV ff] (yy 8 [ym 0,yY 317 [8],zm 7 9,yX 7 0,yX 7 1,zm 5 10,zm 6 11] (zq (yy 12 [ym 5] (.block 0 (yy 13 [zE 14 12 1,ym 14] (zk 13 (yy 15 [yF 0 3,yL 1 15,yE 16 1,zm 4 17] .ret) (yy 18 [zE 19 12 2,ym 19] (zk 18 (yy 20 [yF 0 3,yL 1 20,yE 21 2,zm 4 22] .ret) (yy 24 [yE 12 3,zm 23 24] (zk 23 (yy 25 [yF 0 3,yL 1 25,yE 26 3,ym 27,yH 2 3 28 tt,yG 1 29 28 tt,yM 6 28 tt,yv .eql 30 31 28 tt,yA 28 32,zm 4 33] .ret) (yy 34 [zE 35 12 4,ym 35] (zk 34 (yy 36 [yT 14 3,yY 276 [36],zm 4 37] .ret) (yy 38 [zE 39 12 5,ym 39] (zk 38 (yy 40 [yF 0 3,yL 1 40,yE 41 4,zm 4 42] .ret) .skip)))))))))))) (yy 4 [yV ff] .ret))))
def Bg5:Fk 279 Am2 43 [.tmp 4]:=okF
def Ai8:AC:=(yy 2 [yI 0,yI 0] (zq (yy 8 [ym 0,yo (.bin .eql (.tmp 8) (.cst (.str []))),ym 9,yM 0 10 ff,yw (.slen (.tmp 11)) 10 ff,yu .gtr 12 1 10 ff,yM 13 10 ff,yM 0 14 tt,yw (.sidx (.tmp 15) (zi 0)) 14 tt,yw (.bin .eql (.tmp 16) (.cst (.int .u8 48))) 14 tt,yQ 14 17 10 ff,yO 10 18] (zk 19 (yy 2 [yI 0,yI 3] .ret) .skip)) (zq (yy 20 [ym 0,yo (.convSB (.tmp 20)),yN 21,yI 0] (.block 0 (.loop (yy 24 [yS 23 22] (zq (zk 24 .skip (.exit 0)) (zq (.block 1 (yy 25 [yJ 1 21 23,yL 1 25,zm 5 26] (yy 27 [ym 5,yY 283 [27],yn .neq 28 3] (zk 29 (yy 2 [yI 0,yI 3] .ret) .skip)))) (yz 30 [yP 23 1,zm 23 30]))))))) (yy 32 [ym 0,yY 319 [32],zm 31 33,yX 31 0,yX 31 1,zm 6 34,zm 7 35] (zq (yy 36 [ym 7,yo (.binNil .ifc tt (.tmp 36)),ym 37,yM 6 38 ff,yu .gtr 39 4503599627370496 38 ff,yO 38 40] (zk 41 (yy 2 [yI 0,yI 6] .ret) .skip)) (yy 2 [zm 42 6,ym 42,yI 0] .ret))))))
def Bds:Fk 281 Ai8 43 [.tmp 2,.tmp 3]:=okF
def Ai7:AC:=(yy 2 [yV ff] (yy 3 [ym 0,yC 320 [.tmp 3,zi 2],zm 2 4] .ret))
def Bdr:Fk 282 Ai7 5 [.tmp 2]:=okF
def Ajc:AC:=(yy 2 [yI 0] (zq (.block 0 (yy 4 [ym 0,yo (.bin .geq (.tmp 4) (.cst (.int .u8 97))),ym 5,yM 0 6 tt,yw (.bin .leq (.tmp 7) (.cst (.int .u8 122))) 6 tt,yA 6 8,zm 3 9] (zk 3 (yy 2 [yI 1] .ret) (yy 11 [ym 0,yo (.bin .geq (.tmp 11) (.cst (.int .u8 65))),ym 12,yM 0 13 tt,yw (.bin .leq (.tmp 14) (.cst (.int .u8 90))) 13 tt,yA 13 15,zm 10 16] (zk 10 (yy 2 [yI 2] .ret) (yy 18 [ym 0,yo (.bin .geq (.tmp 18) (.cst (.int .u8 48))),ym 19,yM 0 20 tt,yw (.bin .leq (.tmp 21) (.cst (.int .u8 57))) 20 tt,yA 20 22,zm 17 23] (zk 17 (yy 2 [yI 3] .ret) (yy 25 [ym 0,yo (.bin .eql (.tmp 25) (.cst (.int .u8 95))),zm 24 26] (zk 24 (yy 2 [yI 4] .ret) (yy 28 [ym 0,yo (.bin .eql (.tmp 28) (.cst (.int .u8 46))),zm 27 29] (zk 27 (yy 2 [yI 5] .ret) .skip))))))))))) (yy 2 [yI 0] .ret)))
def Bdw:Fk 283 Ajc 30 [.tmp 2]:=okF
def A55:AC:=(yy 4 [yo (.mov (.cst (.str [])))] (zq (yy 10 [ym 1,yE 10 10] (zk 11 (zq (yy 12 [ym 0,yo (.bin .leq (zi 0) (.tmp 12)),ym 13,yM 0 14 tt,yu .lss 15 100 14 tt,yA 14 16] (zk 17 (yy 18 [ym 0,yY 322 [18],zm 4 19] .ret) .skip)) (yy 5 [yo (.alloc [.int .u8 0,.int .u8 0,.int .u8 0,.int .u8 0,.int .u8 0,.int .u8 0,.int .u8 0,.int .u8 0,.int .u8 0,.int .u8 0,.int .u8 0,.int .u8 0,.int .u8 0,.int .u8 0,.int .u8 0,.int .u8 0,.int .u8 0,.int .u8 0,.int .u8 0,.int .u8 0,.int .u8 0,.int .u8 0,.int .u8 0,.int .u8 0])] (yy 20 [ym 0,yo (.convInt .u64 (.tmp 20)),zm 6 21] (zq (yy 22 [ym 0,yn .lss 22 0] (zk 23 (yz 24 [ym 6,yo (.un .neg (.tmp 24)),zm 6 25]) .skip)) (yy 26 [ym 6,yY 323 [26],zm 7 27] (.seq .bad (zq (yy 33 [ym 0,yn .lss 33 0] (zk 34 (.seq .bad (.seq .bad .ret)) .skip)) (.seq .bad .ret)))))))) .skip)) (zq (yz 45 [ym 0,yo (.convInt .u64 (.tmp 45)),ym 1,ym 0,yn .lss 48 0,yo (zc 325 [.cst (.sl .nilT []),.tmp 46,.tmp 47,.tmp 49,zb ff]),zm 44 50,yX 44 0,yX 44 1,zm 8 51,zm 9 52]) (yy 4 [zm 53 9,ym 53] .ret))))
def A6c:AC:=(yy 4 [yo (.mov (.cst .nili))] (yy 5 [ym 0,yY 284 [5]] (yy 7 [ym 0,ym 0,yd 8,yF 1 9,yL 1 10,ym 1,yo (.buildSl 1 [.int .u8 0] 1 [(0,(.tmp 12))]),yp 1 5 11 13,yd 7,yF 1 15,zs 1 16 14] (yy 4 [yo (.mov (.cst .nili))] .ret))))
def Aot:AC:=(yy 1 [yB 0,yV ff] (zq (yy 5 [yF 0 1,yL 1 5] (.block 0 (zq (yy 8 [yE 6 1,zm 7 8] (zk 7 .skip (yy 9 [yE 6 2,zm 7 9] (zk 7 .skip (yz 10 [yE 6 3,zm 7 10]))))) (zk 7 (yy 11 [yF 13 1,yL 1 11,yN 12,yE 13 0,zm 2 14] .ret) (yy 16 [yE 6 4,zm 15 16] (zk 15 (yy 17 [yF 13 1,yL 1 17,yN 18,yE 19 1,ym 20,yH 13 1 21 tt,yG 1 22 21 tt,yw (.iaddr 14 (.tmp 23) (zi 0)) 21 tt,yg 14 24 21 tt,yZ 326 [25] 21 tt,yA 21 26,zm 2 27] .ret) (yy 28 [zE 29 6 6,ym 29] (zk 28 (yy 30 [yF 13 1,yL 1 30,yN 31,yE 32 2,ym 33,yH 13 1 34 tt,yG 1 35 34 tt,yw (.iaddr 14 (.tmp 36) (zi 0)) 34 tt,yg 14 37 34 tt,yZ 326 [38] 34 tt,yA 34 39,ym 40,yH 13 1 41 tt,yG 1 42 41 tt,yw (.iaddr 14 (.tmp 43) (zi 1)) 41 tt,yg 14 44 41 tt,yZ 326 [45] 41 tt,yA 41 46,zm 2 47] .ret) (yy 48 [zE 49 6 5,ym 49] (zk 48 (zq (yy 50 [yF 13 1,yL 1 50,yN 51,yF 12 1,yL 1 53,yN 54,yr .neq 52 55,ym 56,yH 12 1 57 ff,yG 1 58 57 ff,yh 59 57 ff,yu .gtr 60 1000 57 ff,yO 57 61,ym 62,yH 12 1 63 ff,yG 1 64 63 ff,yZ 215 [65] 63 ff,yj 66 63 ff,yO 63 67] (zk 68 (yy 2 [yV ff] .ret) .skip)) (zq (yy 69 [yF 12 1,yL 1 69,yN 70,yI 0] (.block 1 (.loop (yy 73 [yS 72 71] (zq (zk 73 .skip (.exit 1)) (zq (.block 2 (yy 74 [ym 72,yJ 1 70 72,yL 1 75,zm 3 74,zm 4 76] (yy 77 [ym 4,yF 13 1,yL 1 78,ym 3,yJ 14 79 80,yT 14 81,yY 327 [77,82],yU 83] (zk 84 (yy 2 [yV ff] .ret) .skip)))) (yz 72 [zP 85 72 1,ym 85]))))))) (yy 2 [yV tt] .ret))) .skip)))))))))) (yy 2 [yV ff] .ret)))
def Bii:Fk 287 Aot 86 [.tmp 2]:=okF
def Aqh:AC:=(yy 2 [yB 0,yB 1,yV ff] (zq (yz 5 [yF 0 2,yL 1 5,yF 0 3,yL 1 7,yr .eql 6 8,ym 9,yH 1 2 10 tt,yG 1 11 10 tt,yH 1 3 10 tt,yG 1 13 10 tt,yv .eql 12 14 10 tt,yA 10 15,ym 16,yH 2 2 17 tt,yG 1 18 17 tt,yH 2 3 17 tt,yG 1 20 17 tt,yv .eql 19 21 17 tt,yA 17 22,ym 23,yH 3 2 24 tt,yg 1 25 24 tt,yH 3 3 24 tt,yg 1 27 24 tt,yZ 328 [26,28] 24 tt,yA 24 29,ym 30,yH 4 2 31 tt,yG 1 32 31 tt,yH 4 3 31 tt,yG 1 34 31 tt,yZ 329 [33,35] 31 tt,yA 31 36,ym 37,yH 5 2 38 tt,yG 1 39 38 tt,yH 5 3 38 tt,yG 1 41 38 tt,yw (zc 330 [.tmp 40,.tmp 42,.cst (.fn (.func 288) [] [])]) 38 tt,yA 38 43,zm 4 44]) .ret))
def Bjx:Fk 288 Aqh 45 [.tmp 4]:=okF
def Aon:AC:=(yy 2 [yV ff] (zq (yz 3 [ym 0,yN 3,yn .leq 4 1000,ym 5,yM 0 6 tt,yw (zc 76 [.tmp 7,.cst (.fn (.func 331) [] [])]) 6 tt,yj 8 6 tt,yA 6 9,zm 2 10]) .ret))
def Bic:Fk 289 Aon 11 [.tmp 2]:=okF
def Apu:AC:=(yy 2 [yI 0] (zq (yy 3 [ym 0] (.block 0 (zq (yy 4 [zE 5 3 6,ym 5] (zk 4 .skip (yy 4 [zE 6 3 11,ym 6] (zk 4 .skip (yy 4 [zE 7 3 13,ym 7] (zk 4 .skip (yz 8 [yE 3 14,zm 4 8]))))))) (zk 4 (yy 2 [yI 1] .ret) .skip)))) (yy 2 [yI 2] .ret)))
def Bjd:Fk 290 Apu 9 [.tmp 2]:=okF
def Ap6:AC:=(yy 2 [yV ff] (yy 3 [ym 0,yY 217 [3],yU 4,zm 2 5] .ret))
def Bjm:Fk 291 Ap6 6 [.tmp 2]:=okF
def Apw:AC:=(yy 1 [yB 0,yV ff] (yy 3 [yT 6 1,yo (.build z6 []),yY 288 [3,4],zm 2 5] .ret))
def Bjf:Fk 292 Apw 6 [.tmp 2]:=okF
def Aqj:AC:=(yy 3 [yB 0] (yy 5 [yF 0 3,yL 1 5,yE 6 1,ym 7,yH 1 3 8 tt,yG 1 9 8 tt,yM 1 8 tt,yv .geq 10 11 8 tt,yA 8 12] (zk 13 (yz 14 [yL 1 2,yF 1 3,yL 1 15,ym 1,yr .sub 16 17,yo (.buildSl 1 [.int .i64 0] 1 [(0,(.tmp 18))]),yp 1 3 14 19,zs 1 2 20]) .skip)))
def Aed:Fk 293 Aqj 21 []:=okF
def Aj8:AC:=(yy 3 [yB 1,yK z6] (zq (yy 7 [ym 0,yd 7,yF 1 8,yL 1 9] (zk 10 (yy 11 [yo (.build z6 []),zs 6 4 11] .ret) .skip)) (zq (yy 13 [yT 6 3,yY 343 [13],zm 12 14,yX 12 0,yX 12 1,zm 5 15,zm 6 16] (yy 17 [ym 5,yn .gtr 17 20000,ym 18,yM 6 19 ff,yu .gtr 20 400 19 ff,yO 19 21] (zk 22 (yy 23 [ym 0,yd 23,yF 1 24,ys 1 (.tmp 25) (zb tt)] (yy 26 [yo (.build z6 []),zs 6 4 26] .ret)) .skip))) (yy 27 [yT 6 3,zs 6 4 27] .ret))))
def Bem:Fk 297 Aj8 28 [.cell 4 true 6]:=okF
def Aj7:AC:=(yy 4 [yB 1,yB 2,yK z6] (yy 9 [ym 0,yd 9,yF 0 10,yL 1 11,yP 12 1,yd 9,yF 0 14,zs 1 15 13] (zq (yy 16 [ym 0,yd 16,yF 0 17,yL 1 18,yn .gtr 19 10000] (zk 20 (yz 21 [ym 0,yd 21,yF 1 22,ys 1 (.tmp 23) (zb tt)]) .skip)) (zq (yy 24 [ym 0,yd 24,yF 1 25,yL 1 26] (zk 27 (yy 28 [yo (.build z6 []),zs 6 6 28] .ret) .skip)) (zq (yx 30 [yF 5 4,yL 1 30,ye 6 31 0,yT 6 32,yT 6 5,yo (.buildSl 6 z6 1 [(0,(.tmp 34))]),yY 101 [33,35],zm 29 36,yX 29 0,yX 29 1,zK 7 z6,zs 6 7 37,zm 8 38] [[],[0],[1],[2],[],[4],[3,5],[6],[7],[7],[],[10,8,6,0,1,2,3,4,5,6,7,8,10],[9,11,0,1,2,3,4,5,6,7,8,9,10,11]]) (zq (yy 39 [ym 8,yn .neq 39 0] (zk 40 (yy 41 [ym 0,yd 41,yF 1 42,ys 1 (.tmp 43) (zb tt)] (yy 44 [yo (.build z6 []),zs 6 6 44] .ret)) .skip)) (yy 45 [ym 0,yT 6 7,yY 297 [45,46],zs 6 6 47] .ret)))))))
def Bel:Fk 298 Aj7 48 [.cell 6 true 6]:=okF
def Aka:AC:=(yy 1 [yB 0,yV ff] (zq (yy 5 [yF 0 1,yL 1 5,yn .neq 6 11,ym 7,yH 5 1 8 ff,yG 1 9 8 ff,yw (.iaddr 6 (.tmp 10) (zi 0)) 8 ff,yH 0 11 8 ff,yG 1 12 8 ff,yu .neq 13 12 8 ff,yO 8 14] (zk 15 (yy 2 [yV ff] .ret) .skip)) (zq (yx 16 [yF 5 1,yL 1 16,ye 6 17 0,yF 5 18,yL 1 19,ye 6 20 0,yT 6 21,yF 5 1,yL 1 23,ye 6 24 0,yF 5 25,yL 1 26,ye 6 27 1,yT 6 28,zK 3 z6,zK 4 z6,zs 6 3 22,zs 6 4 29] [[],[0],[1],[2],[3],[4],[5],[],[7],[8],[9],[10],[11],[12],[],[],[14,6,0,1,2,3,4,5,6,14,15],[15,13,16,0,1,2,3,4,5,6,7,8,9,10,11,12,13,14,15,16]]) (yy 30 [yF 0 4,yL 1 30,yE 31 1,ym 32,yH 1 4 33 tt,yG 1 34 33 tt,yu .eql 35 0 33 tt,yA 33 36,ym 37,yg 6 3 38 tt,yD 344 [.tmp 39,zi 0] 38 tt,yj 40 38 tt,yA 38 41,zm 2 42] .ret))))
def Ad3:Fk 299 Aka 43 [.tmp 2]:=okF
def Aiw:AC:=(yy 2 [yB 0,yB 1,yK z6] (yy 5 [yT 6 2,yT 6 3,yo (.buildSl 6 z6 2 [(0,(.tmp 5)),(1,(.tmp 6))]),yo (.build z6 [(0,(1,(zi 6))),(5,(1,(.tmp 7)))]),zs 6 4 8] .ret))
def Bdd:Fk 300 Aiw 9 [.cell 4 true 6]:=okF
def Aqp:AC:=(yy 0 [yK z6] (yy 1 [yo (.build z6 [(0,(1,(zi 7)))]),zs 6 0 1] .ret))
def Bj2:Fk 301 Aqp 2 [.cell 0 true 6]:=okF
def Aoy:AC:=(yy 1 [yB 0,yo (.mov (.cst .nilf))] (yy 2 [zo 3 (.mkfn (.func 345) [] [.tmp 1]),ym 3] .ret))
def Bio:Fk 302 Aoy 4 [.tmp 2]:=okF
def All:AC:=(yy 3 [yB 0,zI 6 0] (zq (yy 8 [ym 1,yn .lss 8 1,ym 9,yM 2 10 ff,yu .lss 11 1 10 ff,yO 10 12,ym 13,yH 0 3 14 ff,yG 1 15 14 ff,yh 16 14 ff,yu .neq 17 0 14 ff,yM 18 14 ff,yH 0 3 19 tt,yG 1 20 19 tt,yh 21 19 tt,yu .neq 22 2 19 tt,yQ 19 23 14 ff,yO 14 24] (zk 25 (yy 6 [yI (-1)] .ret) .skip)) (yy 26 [ym 1,yn .sub 26 1,zm 1 27] (zq (yy 7 [yI 0] (.block 0 (.loop (zq (yy 28 [ym 7,yF 0 3,yL 1 29,yN 30,yS 28 31,ym 32,yM 1 33 tt,yu .geq 34 0 33 tt,yA 33 35] (zk 36 .skip (.exit 0))) (zq (.block 1 (yz 39 [yF 0 3,yL 1 39,ym 7,yJ 1 40 41,yT 1 42,ym 1,ym 2,yn .sub 45 1,yY 303 [43,44,46],zm 1 47])) (yz 37 [ym 7,yP 37 1,zm 7 38])))))) (yy 48 [ym 1,zm 6 48] .ret)))))
def Bfw:Fk 303 All 49 [.tmp 6]:=okF
def Amc:AC:=(yy 2 [yI 0] (zq (yy 3 [ym 0,yE 3 6,ym 4,yM 0 5 ff,yu .eql 6 12 5 ff,yO 5 7] (zk 8 (yy 2 [yI 2] .ret) .skip)) (zq (yy 9 [ym 0,yE 9 7,ym 10,yM 0 11 ff,yu .eql 12 8 11 ff,yO 11 13] (zk 14 (yy 2 [yI (-1)] .ret) .skip)) (zq (yy 15 [ym 0,yY 266 [15]] (zk 16 (yy 2 [yI 1] .ret) .skip)) (yy 2 [yI 0] .ret)))))
def Bgn:Fk 304 Amc 17 [.tmp 2]:=okF
def Ama:AC:=(yy 2 [yV ff] (zq (yy 3 [yI 0] (.block 0 (.loop (zq (yy 4 [ym 3,ym 0,yN 5,yS 4 6] (zk 7 .skip (.exit 0))) (zq (.block 1 (yy 10 [ym 0,ym 3,yJ 1 10 11,yL 1 12,yY 278 [13],yU 14] (zk 15 (yy 2 [yV ff] .ret) .skip))) (yz 8 [ym 3,yP 8 1,zm 3 9])))))) (yy 16 [ym 0,yN 16,yn .leq 17 1000,ym 18,yM 0 19 tt,yZ 277 [20] 19 tt,yA 19 21,zm 2 22] .ret)))
def Bgl:Fk 305 Ama 23 [.tmp 2]:=okF
def Alq:AC:=(yy 2 [yV ff] (zq (yy 6 [ym 0,yo (.slen (.tmp 6)),yn .gtr 7 48] (zk 8 (yy 2 [yV ff] .ret) .skip)) (zq (yy 3 [yI 0] (.block 0 (.loop (zq (yy 9 [ym 3,ym 0,yo (.slen (.tmp 10)),yS 9 11] (zk 12 .skip (.exit 0))) (zq (.block 1 (yy 15 [ym 0,ym 3,yo (.sidx (.tmp 15) (.tmp 16)),yo (.bin .eql (.tmp 17) (.cst (.int .u8 46)))] (zk 18 (yy 20 [ym 0,ym 3,yP 21 1,yo (.sslice (.tmp 20) (some (.tmp 22)) none),yY 346 [23],zm 19 24,yX 19 0,yX 19 1,zm 4 25,zm 5 26] (yy 27 [ym 0,ym 3,yo (.sslice (.tmp 27) none (some (.tmp 28))),yY 274 [29],ym 30,yM 5 31 tt,yu .eql 32 0 31 tt,yA 31 33,zm 2 34] .ret)) .skip))) (yz 13 [ym 3,yP 13 1,zm 3 14])))))) (yy 2 [yV ff] .ret))))
def Bf1:Fk 306 Alq 35 [.tmp 2]:=okF
def Ami:AC:=(yy 2 [yI 0] (zq (yy 3 [ym 0] (.block 0 (zq (yy 4 [zE 5 3 6,ym 5] (zk 4 .skip (yy 4 [zE 6 3 11,ym 6] (zk 4 .skip (yy 4 [zE 7 3 13,ym 7] (zk 4 .skip (yz 8 [yE 3 14,zm 4 8]))))))) (zk 4 (yy 2 [yI 1] .ret) (zq (yy 9 [zE 10 3 1,ym 10] (zk 9 .skip (yy 9 [zE 11 3 2,ym 11] (zk 9 .skip (yy 9 [zE 12 3 3,ym 12] (zk 9 .skip (yy 9 [zE 13 3 4,ym 13] (zk 9 .skip (yy 9 [zE 14 3 5,ym 14] (zk 9 .skip (yy 9 [zE 15 3 7,ym 15] (zk 9 .skip (yy 16 [yE 3 8,zm 9 16] (zk 9 .skip (yy 17 [yE 3 9,zm 9 17] (zk 9 .skip (yy 9 [zE 18 3 10,ym 18] (zk 9 .skip (yz 9 [zE 19 3 12,ym 19]))))))))))))))))))) (zk 9 (yy 2 [yI 2] .ret) .skip)))))) (yy 2 [yI 0] .ret)))
def Bgr:Fk 307 Ami 20 [.tmp 2]:=okF
def Al8:AC:=(yy 3 [yB 0,zI 6 0] (zq (yy 9 [yF 0 3,yL 1 9,yE 10 1,ym 11,yH 1 3 12 tt,yG 1 13 12 tt,yM 2 12 tt,yv .geq 14 15 12 tt,yA 12 16,ym 17,yH 1 3 18 tt,yG 1 19 18 tt,yM 2 18 tt,yv .sub 20 21 18 tt,yM 1 18 tt,yh 23 18 tt,yv .lss 22 24 18 tt,yA 18 25] (zk 26 (yy 27 [ym 1,yF 1 3,yL 1 28,ym 2,yr .sub 29 30,yJ 1 27 31,yL 1 32,zm 6 33] .ret) .skip)) (yy 7 [yI 1] (zq (yy 8 [yI 0] (.block 0 (.loop (zq (yy 34 [ym 8,yF 5 3,yL 1 35,yN 36,yS 34 37] (zk 38 .skip (.exit 0))) (zq (.block 1 (yx 41 [ym 7,yF 5 3,yL 1 42,ym 8,yJ 6 43 44,yT 6 45,ym 1,yT 6 3,ym 2,yY 195 [48,49],yY 308 [46,47,50],yr .add 41 51,zm 7 52] [[],[],[1],[],[2,3],[4],[],[],[],[7,8],[5,6,9,9],[0,10],[11,10,0,1,2,3,4,5,6,7,8,9,10,11]])) (yz 39 [ym 8,yP 39 1,zm 8 40])))))) (yy 53 [ym 7,zm 6 53] .ret)))))
def Bgj:Fk 308 Al8 54 [.tmp 6]:=okF
attribute [simp] Aix Alk Al5 Amb Amw Am0 Amu Amx Aml Alo Anj Als Amf Alp Anl Ann Am6 Ala Anf Am5 Ak1 Ak8 Am2 Ai8 Ai7 Ajc A55 A6c Aot Aqh Aon Apu Ap6 Apw Aqj Aj8 Aj7 Aka Aiw Aqp Aoy All Amc Ama Alq Ami Al8
def Amh:AC:=(yy 2 [yB 0,zV 4 ff] (yy 7 [yT 6 2,yY 347 [7],zm 5 8] (zq (yy 6 [yI 0] (.block 0 (.loop (zq (yy 9 [ym 6,ym 5,yN 10,yS 9 11] (zk 12 .skip (.exit 0))) (zq (.block 1 (yy 15 [ym 5,ym 6,yJ 1 15 16,yL 1 17,ym 1,yr .eql 18 19] (zk 20 (yy 4 [yV tt] .ret) .skip))) (yz 13 [ym 6,yP 13 1,zm 6 14])))))) (yy 4 [yV ff] .ret))))
def Bgq:Fk 309 Amh 21 [.tmp 4]:=okF
def Ano:AC:=(yy 1 [yB 0,yK z6] (zq (yx 3 [yC 113 [zi 0],yT 6 1,yC 114 [.tmp 4,zi 1,zi 0],yY 348 [3,5],zs 6 2 6] [[],[],[1,0],[0,2,2],[3,3,0,1,2,3]]) .ret))
def Bhm:Fk 310 Ano 7 [.cell 2 true 6]:=okF
def Anq:AC:=(yy 1 [yB 0,yK z1] (yy 3 [yT 1 1,yo (.build z1 []),yY 349 [3,4],zs 1 2 5] .ret))
def Bhn:Fk 311 Anq 6 [.cell 2 true 1]:=okF
def Aln:AC:=(yy 2 [yB 0,yB 1,yK z6] (yy 5 [yT 6 2,yT 6 3,yo (.buildSl 6 z6 2 [(0,(.tmp 5)),(1,(.tmp 6))]),yo (.build z6 [(0,(1,(zi 6))),(5,(1,(.tmp 7)))]),zs 6 4 8] .ret))
def Bfy:Fk 312 Aln 9 [.cell 4 true 6]:=okF
def Alz:AC:=(yy 0 [yK z6] (yy 1 [yo (.build z6 [(0,(1,(zi 7)))]),zs 6 0 1] .ret))
def Bga:Fk 313 Alz 2 [.cell 0 true 6]:=okF
def Alg:AC:=(yy 2 [yV ff] (yy 3 [ym 0,yo (.slen (.tmp 3)),yn .geq 4 1,ym 5,yM 0 6 tt,yw (.slen (.tmp 7)) 6 tt,yu .leq 8 24 6 tt,yA 6 9,ym 10,yM 0 11 tt,yZ 350 [12] 11 tt,yA 11 13,zm 2 14] .ret))
def Bfr:Fk 314 Alg 15 [.tmp 2]:=okF
def Ak2:AC:=(yy 2 [yV ff] (yy 3 [ym 0,yo (.bin .geq (.tmp 3) (.cst (.int .u8 65))),ym 4,yM 0 5 tt,yw (.bin .leq (.tmp 6) (.cst (.int .u8 90))) 5 tt,yA 5 7,zm 2 8] .ret))
def Bfd:Fk 315 Ak2 9 [.tmp 2]:=okF
def Ak7:AC:=(yy 2 [yV ff] (yy 3 [ym 0,yY 351 [3],ym 4,yM 0 5 ff,yZ 315 [6] 5 ff,yO 5 7,ym 8,yM 0 9 ff,yZ 352 [10] 9 ff,yO 9 11,ym 12,yM 0 13 ff,yw (.bin .eql (.tmp 14) (.cst (.int .u8 95))) 13 ff,yO 13 15,zm 2 16] .ret))
def Bfi:Fk 316 Ak7 17 [.tmp 2]:=okF
def Alf:AC:=(yy 2 [yI 0,yo (.mov (.cst (.str [])))] (yy 4 [zY 7 353 [],ym 7] (zq (yy 5 [yI 1] (.block 0 (.loop (zq (yy 8 [ym 5,ym 4,yN 9,yS 8 10] (zk 11 .skip (.exit 0))) (zq (.block 1 (yy 14 [ym 4,ym 5,yJ 1 14 15,yL 1 16,yo (.slen (.tmp 17)),zm 6 18] (zq (yx 19 [ym 0,yo (.slen (.tmp 19)),ym 6,yr .gtr 20 21,ym 22,yM 0 23 tt,yM 6 23 tt,yw (.sslice (.tmp 24) none (some (.tmp 25))) 23 tt,yM 4 23 tt,yM 5 23 tt,yw (.iaddr 1 (.tmp 27) (.tmp 28)) 23 tt,yG 1 29 23 tt,yv .eql 26 30 23 tt,yA 23 31,ym 32,yM 5 33 tt,yM 0 33 tt,yM 6 33 tt,yw (.sslice (.tmp 35) (some (.tmp 36)) none) 33 tt,yZ 354 [34,37] 33 tt,yA 33 38] [[],[0],[],[1,2],[3],[4],[4],[5,6,4],[4],[4],[8,9,4],[10,4],[7,11,4],[4,12],[13,4],[14],[14],[14],[16,17,14],[15,18,14,14],[14,19]]) (zk 39 (zq (yx 40 [ym 5,ym 0,ym 6,yo (.sslice (.tmp 41) (some (.tmp 42)) none),zm 2 40,zm 3 43] [[],[],[],[1,2],[0,0],[3,4,0,1,2,3,4]]) .ret) .skip)))) (yz 12 [ym 5,yP 12 1,zm 5 13])))))) (yy 2 [yI 0,yo (.mov (.cst (.str [])))] .ret))))
def Bfq:Fk 317 Alf 44 [.tmp 2,.tmp 3]:=okF
def Ajb:AC:=(yy 4 [yV ff] (zq (yy 8 [ym 0,yo (.bin .eql (.tmp 8) (.cst (.str []))),ym 9,yM 0 10 ff,yw (.slen (.tmp 11)) 10 ff,yu .gtr 12 24 10 ff,yO 10 13,ym 14,yM 0 15 ff,yw (.sidx (.tmp 16) (zi 0)) 15 ff,yZ 283 [17] 15 ff,yM 1 15 ff,yv .neq 18 19 15 ff,yO 15 20] (zk 21 (yy 4 [yV ff] .ret) .skip)) (zq (yy 22 [ym 0,yo (.convSB (.tmp 22)),yN 23,yI 0] (.block 0 (.loop (yy 26 [yS 25 24] (zq (zk 26 .skip (.exit 0)) (zq (.block 1 (yy 27 [yJ 1 23 25,yL 1 27,zm 6 28] (yy 29 [ym 6,yY 283 [29],zm 7 30] (yy 31 [ym 7,yE 31 0,ym 32,yM 7 33 ff,yu .eql 34 5 33 ff,yO 33 35] (zk 36 (yy 4 [yV ff] .ret) .skip))))) (yz 25 [zP 37 25 1,ym 37]))))))) (yy 4 [yV tt] .ret))))
def Bdv:Fk 320 Ajb 38 [.tmp 4]:=okF
def A6a:AC:=(yy 2 [yo (.mov (.cst (.str [])))] (zq (yy 3 [ym 0,yn .lss 3 10] (zk 4 (yy 5 [ym 0,ym 0,yP 6 1,yo (.sslice (.cst (.str [48,49,50,51,52,53,54,55,56,57,97,98,99,100,101,102,103,104,105,106,107,108,109,110,111,112,113,114,115,116,117,118,119,120,121,122])) (some (.tmp 5)) (some (.tmp 7))),zm 2 8] .ret) .skip)) (yy 9 [ym 0,yn .mul 9 2,ym 0,yn .mul 11 2,yP 12 2,yo (.sslice (.cst (.str [48,48,48,49,48,50,48,51,48,52,48,53,48,54,48,55,48,56,48,57,49,48,49,49,49,50,49,51,49,52,49,53,49,54,49,55,49,56,49,57,50,48,50,49,50,50,50,51,50,52,50,53,50,54,50,55,50,56,50,57,51,48,51,49,51,50,51,51,51,52,51,53,51,54,51,55,51,56,51,57,52,48,52,49,52,50,52,51,52,52,52,53,52,54,52,55,52,56,52,57,53,48,53,49,53,50,53,51,53,52,53,53,53,54,53,55,53,56,53,57,54,48,54,49,54,50,54,51,54,52,54,53,54,54,54,55,54,56,54,57,55,48,55,49,55,50,55,51,55,52,55,53,55,54,55,55,55,56,55,57,56,48,56,49,56,50,56,51,56,52,56,53,56,54,56,55,56,56,56,57,57,48,57,49,57,50,57,51,57,52,57,53,57,54,57,55,57,56,57,57])) (some (.tmp 10)) (some (.tmp 13))),zm 2 14] .ret)))
def A59:AC:=(yy 2 [yI 0] (yy 4 [ym 0,yY 342 [4],yY 358 [5],zm 3 6] (.seq .bad .ret)))
def Aoq:AC:=(yy 1 [yB 0,yV ff] (yy 3 [yF 0 1,yL 1 3,yE 4 5,ym 5,yH 0 1 6 ff,yG 1 7 6 ff,yu .eql 8 6 6 ff,yO 6 9,zm 2 10] .ret))
def Bif:Fk 326 Aoq 11 [.tmp 2]:=okF
def Aok:AC:=(yy 3 [yB 1,yV ff] (yy 9 [ym 0,yY 362 [9],zm 8 10,yX 8 0,yX 8 1,yX 8 2,zm 5 11,zm 6 12,zm 7 13] (zq (yy 14 [ym 7,yn .neq 14 0] (zk 15 (yy 4 [yV ff] .ret) .skip)) (zq (yy 16 [ym 5] (.block 0 (yy 17 [zE 18 16 1,ym 18] (zk 17 (yy 19 [yF 0 3,yL 1 19,yE 20 1,zm 4 21] .ret) (yy 22 [zE 23 16 2,ym 23] (zk 22 (yy 24 [yF 0 3,yL 1 24,yE 25 2,zm 4 26] .ret) (yy 27 [zE 28 16 3,ym 28] (zk 27 (yy 29 [yF 0 3,yL 1 29,yE 30 3,ym 31,yH 2 3 32 tt,yG 1 33 32 tt,yM 6 32 tt,yv .eql 34 35 32 tt,yA 32 36,zm 4 37] .ret) (yy 38 [zE 39 16 4,ym 39] (zk 38 (yy 40 [yT 14 3,yY 326 [40],zm 4 41] .ret) .skip)))))))))) (yy 42 [yF 0 3,yL 1 42,yE 43 4,zm 4 44] .ret)))))
def Bh9:Fk 327 Aok 45 [.tmp 4]:=okF
def Aq6:AC:=(yy 2 [yB 0,yB 1,yV ff] (zq (yz 5 [yF 0 2,yL 1 5,yF 0 3,yL 1 7,yo (zc 363 [.tmp 6,.tmp 8,.cst (.fn (.func 328) [] [])]),zm 4 9]) .ret))
def Bki:Fk 328 Aq6 10 [.tmp 4]:=okF
def Apd:AC:=(yy 4 [yV ff] (zq (yy 6 [ym 0,yN 6,ym 1,yN 8,yr .neq 7 9] (zk 10 (yy 4 [yV ff] .ret) .skip)) (zq (yy 11 [ym 0,yN 11,yI 0] (.block 0 (.loop (yy 14 [yS 13 12] (zq (zk 14 .skip (.exit 0)) (zq (.block 1 (yy 5 [zm 15 13,ym 15] (zq (yx 16 [ym 0,ym 5,yJ 1 16 17,yL 1 18,ym 1,ym 5,yJ 1 20 21,yL 1 22,yr .neq 19 23] [[],[],[0,1],[2],[],[],[4,5],[6],[3,7]]) (zk 24 (yy 4 [yV ff] .ret) .skip)))) (yz 25 [yP 13 1,zm 13 25]))))))) (yy 4 [yV tt] .ret))))
def Biy:Fk 329 Apd 26 [.tmp 4]:=okF
def Apb:AC:=(yy 6 [yV ff] (zq (yy 10 [ym 0,yN 10,ym 1,yN 12,yr .neq 11 13] (zk 14 (yy 6 [yV ff] .ret) .skip)) (zq (yy 15 [ym 0,yN 15,yI 0] (.block 0 (.loop (yy 18 [yS 17 16] (zq (zk 18 .skip (.exit 0)) (zq (.block 1 (yy 19 [ym 17,yJ 6 15 17,yT 6 20,zK 8 z6,zm 7 19,zs 6 8 21] (yy 22 [ym 1,ym 7,yJ 6 22 23,yT 6 24,zK 9 z6,zs 6 9 25] (yy 26 [ym 2,yT 6 8,yT 6 9,yo (.call (.tmp 26) [.tmp 27,.tmp 28]),yU 29] (zk 30 (yy 6 [yV ff] .ret) .skip))))) (yz 17 [zP 31 17 1,ym 31]))))))) (yy 6 [yV tt] .ret))))
def Biw:Fk 330 Apb 32 [.tmp 6]:=okF
def Aoo:AC:=(yy 1 [yB 0,yV ff] (yy 3 [yT 1 1,yY 65 [3],yU 4,zm 2 5] .ret))
def Bid:Fk 331 Aoo 6 [.tmp 2]:=okF
def A5x:AC:=(yy 2 [yI 0] (zq (yy 3 [ym 0,yo (.bin .geq (.tmp 3) (.cst (.int .u64 4294967296)))] (zk 4 (yy 5 [ym 0,yo (.bin .shr (.tmp 5) (.cst (.int .u64 32))),zm 0 6] (yz 2 [yI 32])) .skip)) (zq (yy 7 [ym 0,yo (.bin .geq (.tmp 7) (.cst (.int .u64 65536)))] (zk 8 (yy 9 [ym 0,yo (.bin .shr (.tmp 9) (.cst (.int .u64 16))),zm 0 10] (yz 11 [ym 2,yP 11 16,zm 2 12])) .skip)) (zq (yy 13 [ym 0,yo (.bin .geq (.tmp 13) (.cst (.int .u64 256)))] (zk 14 (yy 15 [ym 0,yo (.bin .shr (.tmp 15) (.cst (.int .u64 8))),zm 0 16] (yz 17 [ym 2,yP 17 8,zm 2 18])) .skip)) (yy 19 [ym 2,ym 0,yo (.convInt .u8 (.tmp 20)),yo (.sidx (.cst (.str [0,1,2,2,3,3,3,3,4,4,4,4,4,4,4,4,5,5,5,5,5,5,5,5,5,5,5,5,5,5,5,5,6,6,6,6,6,6,6,6,6,6,6,6,6,6,6,6,6,6,6,6,6,6,6,6,6,6,6,6,6,6,6,6,7,7,7,7,7,7,7,7,7,7,7,7,7,7,7,7,7,7,7,7,7,7,7,7,7,7,7,7,7,7,7,7,7,7,7,7,7,7,7,7,7,7,7,7,7,7,7,7,7,7,7,7,7,7,7,7,7,7,7,7,7,7,7,7,8,8,8,8,8,8,8,8,8,8,8,8,8,8,8,8,8,8,8,8,8,8,8,8,8,8,8,8,8,8,8,8,8,8,8,8,8,8,8,8,8,8,8,8,8,8,8,8,8,8,8,8,8,8,8,8,8,8,8,8,8,8,8,8,8,8,8,8,8,8,8,8,8,8,8,8,8,8,8,8,8,8,8,8,8,8,8,8,8,8,8,8,8,8,8,8,8,8,8,8,8,8,8,8,8,8,8,8,8,8,8,8,8,8,8,8,8,8,8,8,8,8,8,8,8,8,8,8])) (.tmp 21)),yo (.convInt .i64 (.tmp 22)),yr .add 19 23,zm 2 24] .ret)))))
def Akd:AC:=(yy 1 [yB 0,yI 0,yI 0] (yy 2 [yI 1] (zq (yy 8 [yF 5 1,yL 1 8,yN 9,yI 0] (.block 0 (.loop (yy 12 [yS 11 10] (zq (zk 12 .skip (.exit 0)) (zq (.block 1 (yy 13 [yJ 6 9 11,yT 6 13,zK 5 z6,zs 6 5 14] (yy 16 [yT 6 5,yY 343 [16],zm 15 17,yX 15 0,yX 15 1,zm 6 18,zm 7 19] (yz 20 [ym 2,ym 6,yr .add 20 21,ym 3,ym 7,yo (.max [.tmp 23,.tmp 24]),zm 2 22,zm 3 25])))) (yz 26 [yP 11 1,zm 11 26]))))))) (yy 27 [ym 2,ym 3,yP 28 1,zm 2 27,zm 3 29] .ret))))
def Bep:Fk 343 Akd 30 [.tmp 2,.tmp 3]:=okF
def Akb:AC:=(yy 2 [yB 0,yB 1,yV ff] (zq (yy 5 [yF 0 2,yL 1 5,yE 6 1] (zk 7 (yy 8 [yF 1 2,yL 1 8,yL 1 3,yr .eql 9 10,zm 4 11] .ret) .skip)) (zq (yy 12 [yF 0 2,yL 1 12,yY 370 [13]] (zk 14 (yz 15 [yL 1 3,yP 15 1,zs 1 3 16]) .skip)) (yy 17 [yF 5 2,yL 1 17,yo (.mkfn (.func 371) [] [.tmp 3]),yY 84 [18,19],zm 4 20] .ret))))
def Ben:Fk 344 Akb 21 [.tmp 4]:=okF
def Alc:AC:=(yy 2 [yI 0,yI 0] (zq (yy 6 [ym 0,yo (.slen (.tmp 6)),yE 7 0,ym 8,yM 0 9 ff,yw (.slen (.tmp 10)) 9 ff,yu .gtr 11 1 9 ff,yM 12 9 ff,yM 0 13 tt,yw (.sidx (.tmp 14) (zi 0)) 13 tt,yw (.bin .eql (.tmp 15) (.cst (.int .u8 48))) 13 tt,yQ 13 16 9 ff,yO 9 17] (zk 18 (yy 2 [yI 0,yI 3] .ret) .skip)) (yy 4 [yI 0] (zq (yy 5 [yI 0] (.block 0 (.loop (zq (yy 19 [ym 5,ym 0,yo (.slen (.tmp 20)),yS 19 21] (zk 22 .skip (.exit 0))) (zq (.block 1 (zq (yy 25 [ym 0,ym 5,yo (.sidx (.tmp 25) (.tmp 26)),yY 352 [27],yU 28] (zk 29 (yy 2 [yI 0,yI 3] .ret) .skip)) (yz 30 [ym 4,yo (.bin .mul (zi 10) (.tmp 30)),ym 0,ym 5,yo (.sidx (.tmp 32) (.tmp 33)),yo (.bin .sub (.tmp 34) (.cst (.int .u8 48))),yo (.convInt .i64 (.tmp 35)),yr .add 31 36,yo (.min [zi 4503599627370497,.tmp 37]),zm 4 38]))) (yz 23 [ym 5,yP 23 1,zm 5 24])))))) (zq (yy 39 [ym 4,yn .gtr 39 4503599627370496] (zk 40 (yy 2 [yI 0,yI 6] .ret) .skip)) (yy 2 [zm 41 4,ym 41,yI 0] .ret))))))
def Bfn:Fk 346 Alc 42 [.tmp 2,.tmp 3]:=okF
def Alr:AC:=(yy 1 [yB 0,ya] (zq (yz 3 [yT 6 1,yo (zc 372 [.cst (.sl .nilT []),.tmp 3,zi 0]),zm 2 4]) .ret))
def Bf2:Fk 347 Alr 5 [.tmp 2]:=okF
def Alm:AC:=(yy 2 [yB 0,yB 1,yK z6] (yy 5 [yT 6 2,yT 6 3,yo (.buildSl 6 z6 2 [(0,(.tmp 5)),(1,(.tmp 6))]),yo (.build z6 [(0,(1,(zi 12))),(5,(1,(.tmp 7)))]),zs 6 4 8] .ret))
def Bfx:Fk 348 Alm 9 [.cell 4 true 6]:=okF
def Alj:AC:=(yy 2 [yB 0,yB 1,yK z1] (yy 5 [yT 1 2,yT 1 3,yo (.buildSl 1 z1 2 [(0,(.tmp 5)),(1,(.tmp 6))]),yo (.build z1 [(0,(1,(.tmp 7)))]),zs 1 4 8] .ret))
def Bfu:Fk 349 Alj 9 [.cell 4 true 1]:=okF
def Alh:AC:=(yy 2 [yV ff] (zq (yy 3 [yI 0] (.block 0 (.loop (zq (yy 4 [ym 3,ym 0,yo (.slen (.tmp 5)),yS 4 6] (zk 7 .skip (.exit 0))) (zq (.block 1 (yy 10 [ym 0,ym 3,yo (.sidx (.tmp 10) (.tmp 11)),yY 316 [12],yU 13] (zk 14 (yy 2 [yV ff] .ret) .skip))) (yz 8 [ym 3,yP 8 1,zm 3 9])))))) (yy 2 [yV tt] .ret)))
def Bfs:Fk 350 Alh 15 [.tmp 2]:=okF
def Ale:AC:=(yy 2 [yV ff] (yy 3 [ym 0,yo (.bin .geq (.tmp 3) (.cst (.int .u8 97))),ym 4,yM 0 5 tt,yw (.bin .leq (.tmp 6) (.cst (.int .u8 122))) 5 tt,yA 5 7,zm 2 8] .ret))
def Bfp:Fk 351 Ale 9 [.tmp 2]:=okF
def Ak3:AC:=(yy 2 [yV ff] (yy 3 [ym 0,yo (.bin .geq (.tmp 3) (.cst (.int .u8 48))),ym 4,yM 0 5 tt,yw (.bin .leq (.tmp 6) (.cst (.int .u8 57))) 5 tt,yA 5 7,zm 2 8] .ret))
def Bfe:Fk 352 Ak3 9 [.tmp 2]:=okF
def Ak6:AC:=(yy 0 [ya] (zq (yz 0 [zo 1 (.buildSl 1 [.str []] 6 [(0,(.cst (.str []))),(1,(.cst (.str [118,97,108,46]))),(2,(.cst (.str [116,121,112,101,46]))),(3,(.cst (.str [99,111,110,46]))),(4,(.cst (.str [109,111,100,46]))),(5,(.cst (.str [115,105,103,46])))]),ym 1]) .ret))
def Bfh:Fk 353 Ak6 2 [.tmp 0]:=okF
def Ak5:AC:=(yy 4 [yV ff] (zq (yy 5 [ym 0,yE 5 1,ym 6,yM 0 7 ff,yu .eql 8 2 7 ff,yO 7 9] (zk 10 (yy 11 [ym 1,yY 373 [11],zm 4 12] .ret) .skip)) (yy 13 [ym 1,yY 274 [13],zm 4 14] .ret)))
def Bfg:Fk 354 Ak5 15 [.tmp 4]:=okF
attribute [simp] Amh Ano Anq Aln Alz Alg Ak2 Ak7 Alf Ajb A6a A59 Aoq Aok Aq6 Apd Apb Aoo A5x Akd Akb Alc Alr Alm Alj Alh Ale Ak3 Ak6 Ak5
def A58:AC:=(yy 2 [yI 0] (yy 3 [ym 0,yn .mul 3 78913,yo (.bin .shr (.tmp 4) (.cst (.int .u64 18))),zm 2 5] .ret))
def Ai9:AC:=(yy 2 [yI 0,yo (.mov (.cst (.str []))),yI 0] (zq (yy 5 [yI 1] (.block 0 (.loop (zq (yy 8 [ym 5,yn .leq 8 5] (zk 9 .skip (.exit 0))) (zq (.block 1 (yy 13 [ym 0,ym 5,yY 386 [14],yY 385 [13,15],zm 12 16,yX 12 0,yX 12 1,zm 6 17,zm 7 18] (yy 19 [ym 7,ym 19,yM 5 20 tt,yM 6 20 tt,yZ 387 [21,22] 20 tt,yA 20 23] (zk 24 (yy 2 [zm 25 5,zm 26 6,ym 25,ym 26,yI 0] .ret) .skip)))) (yz 10 [ym 5,yP 10 1,zm 5 11])))))) (yy 2 [yI 0,yo (.mov (.cst (.str []))),yI 3] .ret)))
def Bdt:Fk 362 Ai9 27 [.tmp 2,.tmp 3,.tmp 4]:=okF
def Apc:AC:=(yy 6 [yV ff] (zq (yy 10 [ym 0,yN 10,ym 1,yN 12,yr .neq 11 13] (zk 14 (yy 6 [yV ff] .ret) .skip)) (zq (yy 15 [ym 0,yN 15,yI 0] (.block 0 (.loop (yy 18 [yS 17 16] (zq (zk 18 .skip (.exit 0)) (zq (.block 1 (yy 19 [ym 17,yJ 1 15 17,yT 1 20,zK 8 z1,zm 7 19,zs 1 8 21] (yy 22 [ym 1,ym 7,yJ 1 22 23,yT 1 24,zK 9 z1,zs 1 9 25] (yy 26 [ym 2,yT 1 8,yT 1 9,yo (.call (.tmp 26) [.tmp 27,.tmp 28]),yU 29] (zk 30 (yy 6 [yV ff] .ret) .skip))))) (yz 17 [zP 31 17 1,ym 31]))))))) (yy 6 [yV tt] .ret))))
def Bix:Fk 363 Apc 32 [.tmp 6]:=okF
def Aj4:AC:=(yy 2 [yV ff] (yy 3 [ym 0,yE 3 9,ym 4,yM 0 5 ff,yu .eql 6 10 5 ff,yO 5 7,ym 8,yM 0 9 ff,yu .eql 10 11 9 ff,yO 9 11,ym 12,yM 0 13 ff,yu .eql 14 13 13 ff,yO 13 15,zm 2 16] .ret))
def Bei:Fk 370 Aj4 17 [.tmp 2]:=okF
def Akc:AC:=(yy 2 [yB 0,yV ff] (yy 4 [yT 6 2,yL 1 1,yY 344 [4,5],zm 3 6] .ret))
def Beo:Fk 371 Akc 7 [.tmp 3]:=okF
def Al7:AC:=(yy 4 [yB 1,za 6] (zq (yy 8 [yF 0 4,yL 1 8,yE 9 1,ym 10,yH 1 4 11 tt,yG 1 12 11 tt,yM 2 11 tt,yv .geq 13 14 11 tt,yA 11 15] (zk 16 (yy 17 [ym 0,yF 1 4,yL 1 18,ym 2,yr .sub 19 20,yY 389 [17,21],zm 6 22] .ret) .skip)) (zq (yy 7 [yI 0] (.block 0 (.loop (zq (yy 23 [ym 7,yF 5 4,yL 1 24,yN 25,yS 23 26] (zk 27 .skip (.exit 0))) (zq (.block 1 (yx 30 [ym 0,yF 5 4,yL 1 31,ym 7,yJ 6 32 33,yT 6 34,yT 6 4,ym 2,yY 195 [36,37],yY 372 [30,35,38],zm 0 39] [[],[],[1],[],[2,3],[4],[],[],[6,7],[0,5,8,8],[9,9,0,1,2,3,4,5,6,7,8,9]])) (yz 28 [ym 7,yP 28 1,zm 7 29])))))) (yy 40 [ym 0,zm 6 40] .ret))))
def Bgi:Fk 372 Al7 41 [.tmp 6]:=okF
def Ak9:AC:=(yy 2 [yV ff] (yy 3 [ym 0,yY 314 [3],ym 4,yM 0 5 tt,yw (.sidx (.tmp 6) (zi 0)) 5 tt,yZ 351 [7] 5 tt,yA 5 8,ym 9,yZ 391 [] 10 tt,yM 0 10 tt,yZ 390 [11,12] 10 tt,yu .lss 13 0 10 tt,yA 10 14,zm 2 15] .ret))
def Bfk:Fk 373 Ak9 16 [.tmp 2]:=okF
def Apl:AC:=(yy 4 [yo (.mov (.cst (.str []))),yV ff] (yy 6 [ym 0,ym 1,yY 397 [6,7],yX 8 0,yX 8 1,zm 4 9,zm 5 10] .ret))
def Bi6:Fk 385 Apl 11 [.tmp 4,.tmp 5]:=okF
def Ajd:AC:=(yy 2 [yo (.mov (.cst (.str [])))] (zq (yy 3 [ym 0] (.block 0 (yy 4 [zE 5 3 1,ym 5] (zk 4 (yy 2 [yo (.mov (.cst (.str [118,97,108,46])))] .ret) (yy 6 [zE 7 3 2,ym 7] (zk 6 (yy 2 [yo (.mov (.cst (.str [116,121,112,101,46])))] .ret) (yy 8 [zE 9 3 3,ym 9] (zk 8 (yy 2 [yo (.mov (.cst (.str [99,111,110,46])))] .ret) (yy 10 [zE 11 3 4,ym 11] (zk 10 (yy 2 [yo (.mov (.cst (.str [109,111,100,46])))] .ret) (yy 12 [zE 13 3 5,ym 13] (zk 12 (yy 2 [yo (.mov (.cst (.str [115,105,103,46])))] .ret) .skip)))))))))))) (yy 2 [yo (.mov (.cst (.str [])))] .ret)))
def Bdx:Fk 386 Ajd 14 [.tmp 2]:=okF
def Aja:AC:=(yy 4 [yV ff] (zq (yy 5 [ym 0,yE 5 1,ym 6,yM 0 7 ff,yu .eql 8 2 7 ff,yO 7 9] (zk 10 (yy 11 [ym 1,yY 398 [11],zm 4 12] .ret) .skip)) (yy 13 [ym 1,yY 282 [13],zm 4 14] .ret)))
def Bdu:Fk 387 Aja 15 [.tmp 4]:=okF
def Al3:AC:=(yy 4 [ya] (yy 5 [ya] (yy 6 [yV ff] (zq (yy 7 [yI 0] (.block 0 (.loop (zq (yy 8 [ym 7,ym 0,yN 9,yS 8 10] (zk 11 .skip (.exit 0))) (zq (.block 1 (zq (yy 14 [ym 6,yU 14,ym 15,yM 0 16 tt,yM 7 16 tt,yw (.iaddr 1 (.tmp 17) (.tmp 18)) 16 tt,yG 1 19 16 tt,yM 1 16 tt,yv .geq 20 21 16 tt,yA 16 22] (zk 23 (yy 24 [ym 5,ym 1,yo (.buildSl 1 [.int .i64 0] 1 [(0,(.tmp 25))]),yp 1 3 24 26,zm 5 27] (yz 6 [yV tt])) .skip)) (yy 28 [ym 0,ym 7,yJ 1 28 29,yL 1 30,ym 1,yr .neq 31 32] (zk 33 (yz 34 [ym 5,ym 0,ym 7,yJ 1 35 36,yL 1 37,yo (.buildSl 1 [.int .i64 0] 1 [(0,(.tmp 38))]),yp 1 3 34 39,zm 5 40]) .skip)))) (yz 12 [ym 7,yP 12 1,zm 7 13])))))) (zq (yy 41 [ym 6,yU 41] (zk 42 (yz 43 [ym 5,ym 1,yo (.buildSl 1 [.int .i64 0] 1 [(0,(.tmp 44))]),yp 1 3 43 45,zm 5 46]) .skip)) (yy 4 [zm 47 5,ym 47] .ret))))))
def Bge:Fk 389 Al3 48 [.tmp 4]:=okF
def Ak4:AC:=(yy 4 [yI 0] (zq (yy 5 [yI 0] (.block 0 (.loop (zq (yy 6 [ym 5,ym 0,yN 7,yS 6 8] (zk 9 .skip (.exit 0))) (zq (.block 1 (yy 12 [ym 0,ym 5,yJ 1 12 13,yL 1 14,ym 1,yr .eql 15 16] (zk 17 (yy 18 [ym 5,zm 4 18] .ret) .skip))) (yz 10 [ym 5,yP 10 1,zm 5 11])))))) (yy 4 [yI (-1)] .ret)))
def Bff:Fk 390 Ak4 19 [.tmp 4]:=okF
def Alb:AC:=(yy 0 [ya] (zq (yz 0 [zo 1 (.buildSl 1 [.str []] 31 [(0,(.cst (.str [97,110,100,97,108,115,111]))),(1,(.cst (.str [99,97,115,101]))),(2,(.cst (.str [100,97,116,97]))),(3,(.cst (.str [100,105,118]))),(4,(.cst (.str [101,108,115,101]))),(5,(.cst (.str [101,110,100]))),(6,(.cst (.str [102,110]))),(7,(.cst (.str [102,117,110]))),(8,(.cst (.str [102,117,110,99,116,111,114]))),(9,(.cst (.str [103,101,110,101,114,97,116,105,118,101]))),(10,(.cst (.str [105,102]))),(11,(.cst (.str [105,109,112,111,114,116]))),(12,(.cst (.str [105,110]))),(13,(.cst (.str [105,110,99,108,117,100,101]))),(14,(.cst (.str [108,101,116]))),(15,(.cst (.str [109,111,100]))),(16,(.cst (.str [109,111,100,117,108,101]))),(17,(.cst (.str [111,102]))),(18,(.cst (.str [111,112,101,110]))),(19,(.cst (.str [111,114,101,108,115,101]))),(20,(.cst (.str [112,97,99,107]))),(21,(.cst (.str [115,104,97,114,105,110,103]))),(22,(.cst (.str [115,105,103]))),(23,(.cst (.str [115,105,103,110,97,116,117,114,101]))),(24,(.cst (.str [115,116,114,117,99,116]))),(25,(.cst (.str [115,116,114,117,99,116,117,114,101]))),(26,(.cst (.str [116,104,101,110]))),(27,(.cst (.str [116,121,112,101]))),(28,(.cst (.str [117,110,112,97,99,107]))),(29,(.cst (.str [118,97,108]))),(30,(.cst (.str [119,105,116,104])))]),ym 1]) .ret))
def Bfm:Fk 391 Alb 2 [.tmp 0]:=okF
def Apm:AC:=(yy 4 [yo (.mov (.cst (.str []))),yV ff] (zq (yy 6 [ym 0,ym 1,yY 401 [6,7],yU 8] (zk 9 (yy 4 [zm 10 0,ym 10,yV ff] .ret) .skip)) (yy 11 [ym 0,ym 1,yo (.slen (.tmp 12)),yo (.sslice (.tmp 11) (some (.tmp 13)) none),zm 4 14,zV 5 tt] .ret)))
def Bi7:Fk 397 Apm 15 [.tmp 4,.tmp 5]:=okF
def Ai6:AC:=(yy 2 [yV ff] (yy 3 [ym 0,yC 320 [.tmp 3,zi 1],ym 4,yM 0 5 tt,yZ 402 [6] 5 tt,yj 7 5 tt,yA 5 8,zm 2 9] .ret))
def Bdq:Fk 398 Ai6 10 [.tmp 2]:=okF
def Apn:AC:=(yy 4 [yV ff] (yy 5 [ym 0,yo (.slen (.tmp 5)),ym 1,yo (.slen (.tmp 7)),yr .geq 6 8,ym 9,yM 0 10 tt,yM 1 10 tt,yw (.slen (.tmp 12)) 10 tt,yw (.sslice (.tmp 11) none (some (.tmp 13))) 10 tt,yM 1 10 tt,yv .eql 14 15 10 tt,yA 10 16,zm 4 17] .ret))
def Bi8:Fk 401 Apn 18 [.tmp 4]:=okF
def Aje:AC:=(yy 2 [yV ff] (zq (yz 3 [yo (zc 404 [.cst (.str [97,110,100,97,108,115,111,32,99,97,115,101,32,100,97,116,97,32,100,105,118,32,101,108,115,101,32,101,110,100,32,102,110,32,102,117,110,32,102,117,110,99,116,111,114,32,103,101,110,101,114,97,116,105,118,101,32,105,102,32,105,109,112,111,114,116,32,105,110,32,105,110,99,108,117,100,101,32,108,101,116,32,109,111,100,32,109,111,100,117,108,101,32,111,102,32,111,112,101,110,32,111,114,101,108,115,101,32,112,97,99,107,32,115,104,97,114,105,110,103,32,115,105,103,32,115,105,103,110,97,116,117,114,101,32,115,116,114,117,99,116,32,115,116,114,117,99,116,117,114,101,32,116,104,101,110,32,116,121,112,101,32,117,110,112,97,99,107,32,118,97,108,32,119,105,116,104])]),ym 0,yY 403 [3,4],zm 2 5]) .ret))
def Bdy:Fk 402 Aje 6 [.tmp 2]:=okF
def Apa:AC:=(yy 4 [yV ff] (yy 5 [ym 0,ym 1,yY 405 [5,6],yn .geq 7 0,zm 4 8] .ret))
def Biv:Fk 403 Apa 9 [.tmp 4]:=okF
def A6e:AC:=(yy 2 [ya] (yy 3 [yI 0] (yy 4 [yI 1] (yy 5 [yo (.mov (.cst (.int .u8 0)))] (zq (yy 6 [yI 0] (.block 0 (.loop (zq (yy 13 [ym 6,ym 0,yo (.slen (.tmp 14)),yS 13 15] (zk 16 .skip (.exit 0))) (zq (.block 1 (yy 19 [ym 0,ym 6,yo (.sidx (.tmp 19) (.tmp 20)),zm 7 21] (yy 22 [ym 5,ym 7,yr .or 22 23,zm 5 24] (.seq .bad (yy 29 [ym 3,ym 4,ym 8,yo (.un .xor (.tmp 31)),yr .and 30 32,yr .add 29 33,zm 3 34] (yz 35 [ym 8,zm 4 35])))))) (yz 17 [ym 6,yP 17 1,zm 6 18])))))) (zq (yy 36 [ym 5,yo (.bin .geq (.tmp 36) (.cst (.int .u8 128)))] (zk 37 (zq (yz 38 [ym 0,yo (zc 406 [.tmp 38,.cst (.fn (.func 407) [] [])]),zm 2 39]) .ret) .skip)) (.seq .bad (yy 10 [yI 0] (yy 11 [yI 0] (yy 12 [yI 0] (zq (.block 2 (.loop (zq (.seq .bad (zk 53 .skip (.exit 2))) (.block 3 (yz 54 [ym 12,yP 54 1,zm 12 55]))))) (yy 56 [ym 12,zm 11 56] (zq (.block 4 (.loop (zq (yy 57 [ym 12,ym 0,yo (.slen (.tmp 58)),yS 57 59] (zk 60 .skip (.exit 4))) (.block 5 (zq (.seq .bad (zk 66 (yy 67 [ym 12,yP 67 1,zm 12 68] (.exit 5)) .skip)) (yy 69 [ym 9,ym 10,ym 0,ym 11,ym 12,yo (.sslice (.tmp 71) (some (.tmp 72)) (some (.tmp 73))),yJ 1 69 70,zs 1 75 74] (yy 76 [ym 10,yP 76 1,zm 10 77] (yy 78 [ym 12,yP 78 1,zm 12 79] (zq (.block 6 (.loop (zq (.seq .bad (zk 91 .skip (.exit 6))) (.block 7 (yz 92 [ym 12,yP 92 1,zm 12 93]))))) (yz 11 [zm 94 12,ym 94])))))))))) (zq (yy 95 [ym 11,ym 0,yo (.slen (.tmp 96)),yS 95 97] (zk 98 (yz 99 [ym 9,ym 10,ym 0,ym 11,yo (.sslice (.tmp 101) (some (.tmp 102)) none),yJ 1 99 100,zs 1 104 103]) .skip)) (yy 105 [ym 9,zm 2 105] .ret)))))))))))))))
def Apk:AC:=(yy 4 [yI 0] (zq (yy 6 [ym 0,yN 6,yI 0] (.block 0 (.loop (yy 9 [yS 8 7] (zq (zk 9 .skip (.exit 0)) (zq (.block 1 (yy 10 [ym 8,zm 5 10] (yy 11 [ym 1,ym 0,ym 5,yJ 1 12 13,yL 1 14,yr .eql 11 15] (zk 16 (yy 17 [ym 5,zm 4 17] .ret) .skip)))) (yz 8 [zP 18 8 1,ym 18]))))))) (yy 4 [yI (-1)] .ret)))
def Bi3:Fk 405 Apk 19 [.tmp 4]:=okF
def A6f:AC:=(yy 4 [ya] (.seq .bad (yy 6 [yI (-1)] (zq (.seq .bad (.block 0 (.loop (.seq .bad (zq (zk 16 .skip (.exit 0)) (.block 1 (yy 17 [yX 15 1,yX 15 2,zm 7 17,zm 8 18] (yy 19 [ym 1,ym 8,yo (.call (.tmp 19) [.tmp 20])] (zk 21 (yy 22 [ym 6,yn .geq 22 0] (zk 23 (yy 24 [ym 5,ym 6,ym 7,yo (.build [.int .i64 0,.int .i64 0] [(0,(1,(.tmp 25))),(1,(1,(.tmp 26)))]),yo (.buildSl 2 [.int .i64 0,.int .i64 0] 1 [(0,(.tmp 27))]),yp 2 351 24 28,zm 5 29] (yz 30 [ym 6,yo (.un .xor (.tmp 30)),zm 6 31])) .skip)) (yy 32 [ym 6,yn .lss 32 0] (zk 33 (yz 34 [ym 7,zm 6 34]) .skip))))))))))) (zq (yy 35 [ym 6,yn .geq 35 0] (zk 36 (yz 37 [ym 5,ym 6,ym 0,yo (.slen (.tmp 39)),yo (.build [.int .i64 0,.int .i64 0] [(0,(1,(.tmp 38))),(1,(1,(.tmp 40)))]),yo (.buildSl 2 [.int .i64 0,.int .i64 0] 1 [(0,(.tmp 41))]),yp 2 351 37 42,zm 5 43]) .skip)) (.seq .bad (zq (yy 47 [ym 5,yN 47,yI 0] (.block 2 (.loop (yy 50 [yS 49 48] (zq (zk 50 .skip (.exit 2)) (zq (.block 3 (yy 51 [ym 49,yJ 2 47 49,yT 2 52,zo 11 (.alloc [.int .i64 0,.int .i64 0]),zm 10 51,zs 2 11 53] (yz 54 [ym 9,ym 10,ym 0,yF 0 11,yL 1 57,yF 1 11,yL 1 59,yo (.sslice (.tmp 56) (some (.tmp 58)) (some (.tmp 60))),yJ 1 54 55,zs 1 62 61]))) (yz 49 [zP 63 49 1,ym 63]))))))) (yy 64 [ym 9,zm 4 64] .ret))))))))
def A6g:AC:=(yy 2 [yV ff] (zq (yy 3 [ym 0,yo (.convInt .u32 (.tmp 3)),yo (.bin .leq (.tmp 4) (.cst (.int .u32 255)))] (zk 5 (zq (yy 6 [ym 0] (.block 0 (zq (yy 8 [yo (.bin .eql (.tmp 6) (.cst (.int .i32 9))),zm 7 8] (zk 7 .skip (yy 9 [yo (.bin .eql (.tmp 6) (.cst (.int .i32 10))),zm 7 9] (zk 7 .skip (yy 10 [yo (.bin .eql (.tmp 6) (.cst (.int .i32 11))),zm 7 10] (zk 7 .skip (yy 11 [yo (.bin .eql (.tmp 6) (.cst (.int .i32 12))),zm 7 11] (zk 7 .skip (yy 12 [yo (.bin .eql (.tmp 6) (.cst (.int .i32 13))),zm 7 12] (zk 7 .skip (yy 13 [yo (.bin .eql (.tmp 6) (.cst (.int .i32 32))),zm 7 13] (zk 7 .skip (yy 14 [yo (.bin .eql (.tmp 6) (.cst (.int .i32 133))),zm 7 14] (zk 7 .skip (yz 7 [zo 15 (.bin .eql (.tmp 6) (.cst (.int .i32 160))),ym 15]))))))))))))))) (zk 7 (yy 2 [yV tt] .ret) .skip)))) (yy 2 [yV ff] .ret)) .skip)) (.seq .bad .ret)))
attribute [simp] A58 Ai9 Apc Aj4 Akc Al7 Ak9 Apl Ajd Aja Al3 Ak4 Alb Apm Ai6 Apn Aje Apa A6e Apk A6f A6g
def A8f(c:Kd)(A6:∀x∈c.l,Hc 135 [Ba x] (Ba x)):Hc 135 [Ba c] (Ba c):=by
 refine Hf Bdf fun Am Q hQ=>?_;have hf:=jt (k:=c) (by simpa[Bl,Ba,AV.fits]using Am);have B5:c.l.length<=1073741824:=hf.1;clear Am hf;simp[Ba,Df c];refine WL [2] (fun n f h G=>∃k tok,k+n=c.l.length/\f 9= .int .i64 k/\h 2=[.sl tok ((c.l.map Ak).take k)]/\owns 3 G tok ((c.l.map Ak).take k) 1) c.l.length Ab ⟨0,.nilT,Ab,rfl,by simp[Fs],Fp _ _ _⟩ ?_;rintro n f h G ⟨k,tok,hk,h9,h2,Bt⟩ Q2 Aj;simp[h9,h2];by_cases Af:k<c.l.length
 . have A6:=A6 c.l[k] (Cy _);simp[Af];refine Wd ?_;simp;refine J5 (fun H=>A6.lift (by simp[Ba,A0,AV.inScope]) (by simp[Ba,AV.inScope]) H) ?_;simp[Ba,Dx];refine Yb (A:=[_,_,_]) (Lv Bt) (by simp[A1]; omega) (P7 (Ea _ _ Ac8)) Ab fun tok' G' Bv Ei=>?_;simp[Au (n:=(k:Int)+1) Aa Aa];refine Aj (Fo (n-1) (fun _=>[.sl tok' ((c.l.map Ak).take k++[Ak c.l[k]])]) rfl ?_ ?_ ?_)
   . omega
   . simp
   have e:(c.l.map Ak).take (k+1)=(c.l.map Ak).take k++[Ak c.l[k]]:=by simp[qi,Af]
   refine⟨k+1,tok',Aa,Ab,by rw[e],?_⟩;rw[e]; exact Bv
 have Dk:(c.l.map Ak).take k=c.l.map Ak:=Gj (by simp;omega);simp[Af];refine Aj (Lx ?_);simp[Dk];exact hQ (by simp[Gl,I2,Ic,Js,AV.strip,Ce,AV.inScope,A0,Be,Ba,Df c])
def Abr(c:Kd):Hc 135 [Ba c] (Ba c):=A8f c fun x _=>Abr x
termination_by SizeOf.sizeOf c
decreasing_by exact Kd.lt_l ‹_›
mutual
def Jn:Kd->Int->Int->Option Int
 | .mk l,left,depth=>if left<=0\/400<depth\/(l.length≠0/\l.length≠2)then none else Ls l left depth 1
def Ls:List Kd->Int->Int->Int->Option Int
 | [],_,_,acc=>some acc
 |x::xs,left,depth,acc=>match Jn x (left-acc) (depth+1)with
  |none=>none
  |some m=>Ls xs left depth (acc+m)
end
def uz(c:Kd)(left depth:Int):Jn c left depth=if left<=0\/400<depth\/(c.l.length≠0/\c.l.length≠2)then none else Ls c.l left depth 1:=by cases c;simp[Jn,Kd.l]
mutual
def jr:∀(c:Kd) (left depth n:Int),Jn c left depth=some n->1<=n/\n<=left
 | .mk l,left,depth,n,h=>by
   simp only[Jn]at h;split at h
   . cases h
   rename_i hn;have:=Auz l left depth 1 n h Aa;omega
def Auz:∀(l:List Kd) (left depth acc n:Int),Ls l left depth acc=some n->acc<=left->acc<=n/\n<=left
 | [],left,depth,acc,n,h,ha=>by simp only[Ls,Ay]at h;omega
 |x::xs,left,depth,acc,n,h,ha=>by
  simp only[Ls]at h;split at h
  . cases h
  rename_i m hm;have h1:=jr x _ _ m hm;have h2:=Auz xs left depth (acc+m) n h Aa;omega
end
def Pd(o:Option Int):AV:=.tup [.int .i64 (o.getD 0),.bool o.isSome]
def Bau(c:Kd)(left depth:Int)(hl:left<=20000)(hl0: -1<=left)(Lh:0<=depth)(hd:depth<=1000)
 (A6:∀x∈c.l,∀left depth,left<=20000->-1<=left->0<=depth->depth<=401->Hc 133 [Ba x,.int .i64 left,.int .i64 depth] (Pd (Jn x left depth))):
 Hc 133 [Ba c,.int .i64 left,.int .i64 depth] (Pd (Jn c left depth)):=by
 refine Hf Bd0 fun Am Q hQ=>?_;have hf:=jt (k:=c) (by simpa[Bl,Ba,AV.fits]using Am.1);have B5:c.l.length<=1073741824:=hf.1;clear Am hf;simp[Ba,Df c];by_cases h1:left<=0
 . have e:Jn c left depth=none:=by rw[uz]; simp[h1]
   simp[h1];exact hQ (by simp[Gl,I2,Ic,Js,AV.strip,Ce,AV.inScope,A0,Be,e,Pd])
 by_cases h2:400<depth
 . have e:Jn c left depth=none:=by rw[uz]; simp[h2]
   simp[h1,h2];exact hQ (by simp[Gl,I2,Ic,Js,AV.strip,Ce,AV.inScope,A0,Be,e,Pd])
 simp[h1,h2]
 have key:∀b,((c.l.length:Int) != 0)=b->(b=true->(c.l.length:Int)=2)->Jn c left depth=Ls c.l left depth 1:=fun b hb h=>by
  rw[uz,Ac];cases b
  . simp only[Z6]at hb;omega
  have:=h rfl;omega
 refine Em (fun hb=>?_) (fun hb=>?_)<;>simp[hb]
 refine C3 (fun Mc=>?_) (fun Mc=>?_)
 . have e:Jn c left depth=none:=by
    rw[uz,Ae];simp only[bne_iff_ne,Nc]at hb Mc;omega
   simp;exact hQ (by simp[Gl,I2,Ic,Js,AV.strip,Ce,AV.inScope,A0,Be,e,Pd])
 . have key:=key _ hb (fun _=>by simpa only[Z6]using Mc);simp;refine WL [] (fun n f h G=>∃(k:Nat) (acc:Int),k+n=c.l.length/\f 34= .int .i64 k/\f 8= .int .i64 acc/\1<=acc/\acc<=left/\Ls (c.l.drop k) left depth acc=Ls c.l left depth 1) c.l.length Ab ⟨0,1,Ab,rfl,rfl,Aa,Aa,Ab⟩ ?_;rintro n f h G ⟨k,acc,hk,h34,h8,ha1,hal,hs⟩ Q2 Aj;simp[h34,h8];by_cases Af:k<c.l.length
   . have hd:=Ct Af;have A6:=A6 c.l[k] (Cy _) (left-acc) (depth+1) Aa Aa Aa Aa;simp[Af,Au (n:=left-acc) Aa Aa,Au (n:=depth+1) Aa Aa];refine C1 (A6.lift (by simp[Ba,A0,AV.inScope]) (by simp[Pd,AV.inScope,A0]) _) ?_;simp[Pd]
     cases hm:Jn c.l[k] (left-acc) (depth+1)with
     |none=>
      have e:Jn c left depth=none:=by rw[key,<-hs,hd]; simp[Ls,hm]
      simp;refine Aj (Lr ?_);simp
      exact hQ (by simp[Gl,I2,Ic,Js,AV.strip,Ce,AV.inScope,A0,Be,e,Pd])
     |some m=>
      have hm2:=jr _ _ _ _ hm;simp[Au (n:=(k:Int)+1) Aa Aa,Au (n:=acc+m) Aa Aa];refine Aj (Fo (n-1) h rfl ?_ ?_ ?_)
      . omega
      . simp
      refine⟨k+1,acc+m,Aa,Ab,Ab,Aa,Aa,?_⟩;rw[<- hs,hd]; simp[Ls,hm]
   have e:Jn c left depth=some acc:=by
    rw[key,<-hs,Cm Aa]; simp[Ls]
   simp[Af];refine Aj (Lx ?_);simp;exact hQ (by simp[Gl,I2,Ic,Js,AV.strip,Ce,AV.inScope,A0,Be,e,Pd])
 have key:=key _ hb Ab;refine WL [] (fun n f h G=>∃(k:Nat) (acc:Int),k+n=c.l.length/\f 34= .int .i64 k/\f 8= .int .i64 acc/\1<=acc/\acc<=left/\Ls (c.l.drop k) left depth acc=Ls c.l left depth 1) c.l.length Ab ⟨0,1,Ab,rfl,rfl,Aa,Aa,Ab⟩ ?_;rintro n f h G ⟨k,acc,hk,h34,h8,ha1,hal,hs⟩ Q2 Aj;simp[h34,h8];by_cases Af:k<c.l.length
 . have hd:=Ct Af;have A6:=A6 c.l[k] (Cy _) (left-acc) (depth+1) Aa Aa Aa Aa;simp[Af,Au (n:=left-acc) Aa Aa,Au (n:=depth+1) Aa Aa];refine C1 (A6.lift (by simp[Ba,A0,AV.inScope]) (by simp[Pd,AV.inScope,A0]) _) ?_;simp[Pd]
   cases hm:Jn c.l[k] (left-acc) (depth+1)with
   |none=>
    have e:Jn c left depth=none:=by rw[key,<-hs,hd]; simp[Ls,hm]
    simp;refine Aj (Lr ?_);simp
    exact hQ (by simp[Gl,I2,Ic,Js,AV.strip,Ce,AV.inScope,A0,Be,e,Pd])
   |some m=>
    have hm2:=jr _ _ _ _ hm;simp[Au (n:=(k:Int)+1) Aa Aa,Au (n:=acc+m) Aa Aa];refine Aj (Fo (n-1) h rfl ?_ ?_ ?_)
    . omega
    . simp
    refine⟨k+1,acc+m,Aa,Ab,Ab,Aa,Aa,?_⟩;rw[<- hs,hd]; simp[Ls,hm]
 have e:Jn c left depth=some acc:=by
  rw[key,<-hs,Cm Aa]; simp[Ls]
 simp[Af];refine Aj (Lx ?_);simp;exact hQ (by simp[Gl,I2,Ic,Js,AV.strip,Ce,AV.inScope,A0,Be,e,Pd])
def Au6(c:Kd)(left depth:Int)(hl:left<=20000)(hl0: -1<=left)(Lh:0<=depth)(hd:depth<=1000):Hc 133 [Ba c,.int .i64 left,.int .i64 depth] (Pd (Jn c left depth)):=
 Bau c left depth hl hl0 Lh hd fun x _ left depth h1 h2 h3 h4=>Au6 x left depth h1 h2 h3 Aa
termination_by SizeOf.sizeOf c
decreasing_by exact Kd.lt_l ‹_›
def Et{α:Type}(p:α->Bool):List α->Nat->Int
 | [],_=>-1
 |x::xs,i=>if p x then i else Et p xs (i+1)
def jl{α:Type}(p:α->Bool):∀(l:List α) (i:Nat),decide (0<=Et p l i)=l.any p
 | [],i=>by simp[Et]
 |x::xs,i=>by
  have:=jl p xs (i+1);cases h:p x<;>simp[Et,h,this]
def Bpr(l:B6)(p:Kd->Bool)(n:Nat)(hp:∀x∈l,Hc n [Ba x] (.bool (p x))):
 Hc 143 [.sl .none (l.map Ak),.fn (.func n) [] []] (.int .i64 (Et p l 0)):=by
 refine Hf Axc fun Am Q hQ=>?_;have B5:l.length<=1073741824:=by simpa[Bl,AV.fits,A1]using Am.1.1
 clear Am;simp;refine WL [] (fun n f h G=>∃k:Nat,k+n=l.length/\f 8= .int .i64 k/\Et p (l.drop k) k=Et p l 0) l.length Ab ⟨0,Ab,rfl,Ab⟩ ?_;rintro n f h G ⟨k,hk,h8,hs⟩ Q2 Aj;simp[h8];by_cases Af:k<l.length
 . have hd:=Ct Af;have hp:=hp l[k] (Cy _);simp[Af];refine C1 (hp.lift (by simp[Ba,A0,AV.inScope]) (by simp[AV.inScope]) _) ?_;simp;refine C3 (fun hb=>?_) (fun hb=>?_)
   . have e:Et p l 0=k:=by rw[<- hs,hd]; simp[Et,hb]
     simp;refine Aj (Lr ?_);simp;exact hQ
   simp[Au (n:=(k:Int)+1) Aa Aa];refine Aj (Fo (n-1) h rfl ?_ ?_ ?_)
   . omega
   . simp
   refine⟨k+1,Aa,Ab,?_⟩;rw[<- hs,hd]; simp[Et,hb]
 have e:Et p l 0= -1:=by rw[<- hs,Cm Aa]; simp[Et]
 simp[Af];refine Aj (Lx ?_);simp;exact hQ
def Afo(l:B6)(p:Kd->Bool)(n:Nat)(hp:∀x∈l,Hc n [Ba x] (.bool (p x))):
 Hc 76 [.sl .none (l.map Ak),.fn (.func n) [] []] (.bool (l.any p)):=by
 refine Hg Axa fun Q hQ=>?_;simp;refine C1 ((Bpr l p n hp).lift (by simp[A0,AV.inScope]) (by simp[AV.inScope]) _) ?_;simp;exact hQ (by simp[Gl,I2,Ic,Js,AV.strip,AV.inScope,Be,jl])
def Eu(c:Kd):Bool:=(Jn c 20000 1).isSome
def ce(c:Kd):Hc 65 [Ba c] (.bool (Eu c)):=by
 refine Hg Bdz fun Q hQ=>?_;simp[Ba];refine C1 ((Au6 c 20000 1 Aa Aa Aa Aa).lift (by simp[Ba,A0,AV.inScope]) (by simp[Pd,AV.inScope,A0]) _) ?_;simp[Pd];exact hQ (by simp[Gl,I2,Ic,Js,AV.strip,AV.inScope,Be,Eu])
def A8h(c:Kd):Hc 253 [Ba c] (.bool !Eu c):=by
 refine Hg Bdi fun Q hQ=>?_;simp[Ba];refine C1 ((ce c).lift (by simp[Ba,A0,AV.inScope]) (by simp[AV.inScope]) _) ?_;simp;exact hQ
def gp(l:B6):Hc 184 [.sl .none (l.map Ak)] (.bool (l.all Eu)):=by
 refine Hg Bdh fun Q hQ=>?_;simp;refine C1 ((Afo l _ _ fun x _=>A8h x).lift (by simp[A0,AV.inScope]) (by simp[AV.inScope]) _) ?_;simp;exact hQ (by simp[Gl,I2,Ic,Js,AV.strip,AV.inScope,Be,A3m])
mutual
def Lq:Kd->Int->Int->Int
 | .mk l,left,depth=>if left<1\/depth<1\/(l.length≠0/\l.length≠2)then -1 else Kf l (left-1) depth
def Kf:List Kd->Int->Int->Int
 | [],left,_=>left
 |x::xs,left,depth=>if 0<=left then Kf xs (Lq x left (depth-1)) depth else left
end
def ux(c:Kd)(left depth:Int):Lq c left depth=if left<1\/depth<1\/(c.l.length≠0/\c.l.length≠2)then -1 else Kf c.l (left-1) depth:=by cases c;simp[Lq,Kd.l]
mutual
def Ac6:∀(c:Kd) (left d:Int),(∀ n,Jn c left d=some n->Lq c left (401-d)=left-n)/\(Jn c left d=none->Lq c left (401-d)<0)
 | .mk l,left,d=>by
   simp only[Jn,Lq];by_cases h:left<=0\/400<d\/(l.length≠0/\l.length≠2)
   . rw[Ae h,Ae Aa]; simp
   rw[Ac h,Ac Aa];have:=Auw l left d 1 Aa;exact this
def Auw:∀(l:List Kd) (left d acc:Int),acc<=left->(∀ n,Ls l left d acc=some n->Kf l (left-acc) (401-d)=left-n)/\(Ls l left d acc=none->Kf l (left-acc) (401-d)<0)
 | [],left,d,acc,ha=>by simp[Ls,Kf]
 |x::xs,left,d,acc,ha=>by
  have h1:=Ac6 x (left-acc) (d+1);have e:(401:Int)-(d+1)=401-d-1:=Aa;rw[e]at h1;simp only[Ls,Kf];rw[Ae Aa]
  cases hm:Jn x (left-acc) (d+1)with
  |none=>
   have h2:=h1.2 hm;simp only[reduceCtorEq,false_implies,implies_true,L1];intro _
   cases xs with
   |nil=>simpa[Kf]using h2
   |cons y ys=>simp only[Kf]; rw[Ac Aa]; exact h2
  |some m=>
   have h2:=h1.1 m hm;have h3:=jr _ _ _ _ hm;have h4:=Auw xs left d (acc+m) Aa;have e2:left-acc-m=left-(acc+m):=Aa;simp only[h2,e2];exact h4
end
def Auu(c:Kd)(left d:Int)(hl:0<=left):Lq c left d<=left:=by
 have h:=Ac6 c left (401-d);have e:(401:Int)-(401-d)=d:=Aa;rw[e]at h
 cases hs:Jn c left (401-d)with
 |none=>have:=h.2 hs;omega
 |some n=>have:=h.1 n hs;have:=jr _ _ _ _ hs;omega
mutual
def Ac5:∀(c:Kd) (left depth:Int),0<=left->-1<=Lq c left depth
 | .mk l,left,depth,h=>by
   simp only[Lq];split
   . omega
   exact Auv l (left-1) depth Aa
def Auv:∀(l:List Kd) (left depth:Int), -1<=left->-1<=Kf l left depth
 | [],left,depth,h=>by simpa[Kf]using h
 |x::xs,left,depth,h=>by
  simp only[Kf];split
  . exact Auv xs _ depth (Ac5 x left _ Aa)
  exact h
end
def Bak(c:Kd):decide (0<=Lq c 20000 400)=Eu c:=by
 have h:=Ac6 c 20000 1;rw[show(401:Int)-1=400 from rfl]at h;unfold Eu
 cases hs:Jn c 20000 1 with
 |none=>have:=h.2 hs;simp;omega
 |some n=>
  have h1:=h.1 n hs;have:=jr _ _ _ _ hs;simp;omega
def Sj(a b:Kd):Kd:=.mk [a,b]
def Bk5(a b:Kd):Hc 349 [Ba a,Ba b] (Ba (Sj a b)):=by
 refine Hg Bfu fun Q hQ=>?_;simp[Ba];exact hQ (by simp[Ba,vc,Sj])
def A8i(a:Kd):Hc 68 [Ba a] (Ba (Sj a (.mk []))):=by
 refine Hg Bdj fun Q hQ=>?_;simp[Ba];refine Ca (Abr a) ?_;simp[Ba];exact hQ (by simp[Ba,vc,Sj])
def Bmh(a:Kd):Hc 311 [Ba a] (Ba (Sj a (.mk []))):=by
 refine Hg Bhn fun Q hQ=>?_;simp[Ba];refine Ca (Bk5 a (.mk [])) ?_;simp[Ba];exact hQ (by simp[Ba,vc,Sj])
def Bk6(c:Kd)(left depth:Int)(hl:left<=20000)(hl0: -1<=left)(Lh:0<=depth)(hd:depth<=1000)
 (A6:∀x∈c.l,∀left depth,left<=20000->-1<=left->0<=depth->depth<=1000->Hc 303 [Ba x,.int .i64 left,.int .i64 depth] (.int .i64 (Lq x left depth))):
 Hc 303 [Ba c,.int .i64 left,.int .i64 depth] (.int .i64 (Lq c left depth)):=by
 refine Hf Bfw fun Am Q hQ=>?_;have hf:=jt (k:=c) (by simpa[Bl,Ba,AV.fits]using Am.1);have B5:c.l.length<=1073741824:=hf.1;clear Am hf;simp[Ba,Df c];by_cases h1:left<1
 . have e:Lq c left depth= -1:=by rw[ux]; simp[h1]
   simp[h1];exact hQ
 by_cases h2:depth<1
 . have e:Lq c left depth= -1:=by rw[ux]; simp[h2]
   simp[h1,h2];exact hQ
 simp[h1,h2]
 have key:∀b,((c.l.length:Int) != 0)=b->(b=true->(c.l.length:Int)=2)->Lq c left depth=Kf c.l (left-1) depth:=fun b hb h=>by
  rw[ux,Ac];cases b
  . simp only[Z6]at hb;omega
  have:=h rfl;omega
 refine Em (fun hb=>?_) (fun hb=>?_)<;>simp[hb]
 refine C3 (fun Mc=>?_) (fun Mc=>?_)
 . have e:Lq c left depth= -1:=by
    rw[ux,Ae];simp only[bne_iff_ne,Nc]at hb Mc;omega
   simp;exact hQ
 . have key:=key _ hb (fun _=>by simpa only[Z6]using Mc);simp[Au (n:=left-1) Aa Aa];refine WL [] (fun n f h G=>∃(k:Nat) (m:Int),k+n=c.l.length/\f 7= .int .i64 k/\f 1= .int .i64 m/\-1<=m/\m<=left/\Kf (c.l.drop k) m depth=Kf c.l (left-1) depth) (c.l.length) Ab ⟨0,left-1,Ab,rfl,rfl,Aa,Aa,Ab⟩ ?_;rintro n f h G ⟨k,m,hk,h7,h1m,ba,S8,hs⟩ Q2 Aj;simp[h7,h1m];by_cases Af:k<c.l.length
   . have Fz:=Ct Af;simp[Af];refine C3 (fun M2=>?_) (fun M2=>?_)
     . have hm:0<=m:=by simpa using M2
       have A6:=A6 c.l[k] (Cy _) m (depth-1) Aa Aa Aa Aa;simp[Af,Au (n:=depth-1) Aa Aa];refine Ca A6 ?_;simp[Au (n:=(k:Int)+1) Aa Aa];refine Aj (Ln h ?_);have hb5:=Auu c.l[k] m (depth-1) hm;have hb6:=Ac5 c.l[k] m (depth-1) hm;refine⟨k+1,_,Aa,Ab,by simp;rfl,Aa,Aa,?_⟩;rw[<- hs,Fz]; simp[Kf,hm]
     have hm:¬0<=m:=by simpa using M2
     have e:Lq c left depth=m:=by rw[key,<-hs,Fz]; simp[Kf,hm]
     simp;refine Aj (Lx ?_);simp;exact hQ (by simp[e])
   have e:Lq c left depth=m:=by rw[key,<-hs,Cm Aa]; simp[Kf]
   simp[Af];refine Aj (Lx ?_);simp;exact hQ (by simp[e])
 have key:=key _ hb Ab;simp[Au (n:=left-1) Aa Aa];refine WL [] (fun n f h G=>∃(k:Nat) (m:Int),k+n=c.l.length/\f 7= .int .i64 k/\f 1= .int .i64 m/\-1<=m/\m<=left/\Kf (c.l.drop k) m depth=Kf c.l (left-1) depth) (c.l.length) Ab ⟨0,left-1,Ab,rfl,rfl,Aa,Aa,Ab⟩ ?_;rintro n f h G ⟨k,m,hk,h7,h1m,ba,S8,hs⟩ Q2 Aj;simp[h7,h1m];by_cases Af:k<c.l.length
 . have Fz:=Ct Af;simp[Af];refine C3 (fun M2=>?_) (fun M2=>?_)
   . have hm:0<=m:=by simpa using M2
     have A6:=A6 c.l[k] (Cy _) m (depth-1) Aa Aa Aa Aa;simp[Af,Au (n:=depth-1) Aa Aa];refine Ca A6 ?_;simp[Au (n:=(k:Int)+1) Aa Aa];refine Aj (Ln h ?_);have hb5:=Auu c.l[k] m (depth-1) hm;have hb6:=Ac5 c.l[k] m (depth-1) hm;refine⟨k+1,_,Aa,Ab,by simp;rfl,Aa,Aa,?_⟩;rw[<- hs,Fz]; simp[Kf,hm]
   have hm:¬0<=m:=by simpa using M2
   have e:Lq c left depth=m:=by rw[key,<-hs,Fz]; simp[Kf,hm]
   simp;refine Aj (Lx ?_);simp;exact hQ (by simp[e])
 have e:Lq c left depth=m:=by rw[key,<-hs,Cm Aa]; simp[Kf]
 simp[Af];refine Aj (Lx ?_);simp;exact hQ (by simp[e])
def Axt(c:Kd)(left depth:Int)(hl:left<=20000)(hl0: -1<=left)(Lh:0<=depth)(hd:depth<=1000):Hc 303 [Ba c,.int .i64 left,.int .i64 depth] (.int .i64 (Lq c left depth)):=
 Bk6 c left depth hl hl0 Lh hd fun x _ left depth h1 h2 h3 h4=>Axt x left depth h1 h2 h3 Aa
termination_by SizeOf.sizeOf c
decreasing_by exact Kd.lt_l ‹_›
def Xz(c:Kd):Hc 258 [Ba c] (.bool (Eu c)):=by
 refine Hg Bfv fun Q hQ=>?_;simp[Ba];refine Ca (Axt c 20000 400 Aa Aa Aa Aa) ?_;simp;exact hQ (by simp[Bak])
def Axs(l:B6):Hc 188 [.sl .none (l.map Ak)] (.bool (l.all Eu)):=by
 refine Hf Bft fun Am Q hQ=>?_;have B5:l.length<=1073741824:=by simpa[Bl,AV.fits,A1]using Am.1.1
 clear Am;simp;refine WL [] (fun n f h G=>∃k:Nat,k+n=l.length/\f 3= .int .i64 k/\(l.drop k).all Eu=l.all Eu) (l.length) Ab ⟨0,Ab,rfl,Ab⟩ ?_;rintro n f h G ⟨k,hk,h3,hs⟩ Q2 Aj;simp[h3];by_cases Af:k<l.length
 . have hd:=Ct Af;simp[Af];refine Ca (Xz l[k]) ?_;simp;cases hv:Eu l[k]
   . have e:l.all Eu=false:=by rw[<- hs,hd,Er,hv]; simp
     simp;refine Aj (Lr ?_);simp;exact hQ
   simp[Au (n:=(k:Int)+1) Aa Aa];refine Aj (Ln h ?_);refine⟨k+1,Aa,Ab,?_⟩;rw[<- hs,hd,Er,hv]; simp
 have e:l.all Eu=true:=by rw[<- hs,Cm Aa]; simp
 simp[Af];refine Aj (Lx ?_);simp;exact hQ
def J1(l:List Kd):Bool:=decide (l.length<=1000)&&l.all Eu
def Ayg(l:B6):Hc 275 [.sl .none (l.map Ak)] (.bool (J1 l)):=by
 refine Hg Bhg fun Q hQ=>?_;simp;by_cases h:l.length<=1000
 . have h':(l.length:Int)<=1000:=by omega
   simp[h'];refine Ca (Axs l) ?_;simp;exact hQ (by simp[J1,h])
 have h':¬(l.length:Int)<=1000:=by omega
 simp[h'];exact hQ (by simp[J1,h])
def Box(c:Kd):Hc 331 [Ba c] (.bool !Eu c):=by
 refine Hg Bid fun Q hQ=>?_;simp[Ba];refine Ca (ce c) ?_;simp;exact hQ
def Afi(l:B6):Hc 289 [.sl .none (l.map Ak)] (.bool (J1 l)):=by
 refine Hg Bic fun Q hQ=>?_;simp;by_cases h:l.length<=1000
 . have h':(l.length:Int)<=1000:=by omega
   simp[h'];refine Ca (Afo l _ _ fun x _=>Box x) ?_;simp;exact hQ (by simp[J1,h,A3m])
 have h':¬(l.length:Int)<=1000:=by omega
 simp[h'];exact hQ (by simp[J1,h])
def Cs{α β:Type}(p:α->β->Bool):List α->List β->Bool
 | [],[]=>true
 |x::xs,y::ys=>p x y&&Cs p xs ys
 |_,_=>false
def Vq{α β:Type}(p:α->β->Bool):∀(a:List α) (b:List β),a.length≠b.length->Cs p a b=false
 | [],[],h=>by simp at h
 |x::xs,y::ys,h=>by simp[Cs,Vq p xs ys (by simpa using h)]
 | [],_::_,_=>rfl
 |_::_,[],_=>rfl
mutual
def Kg:Kd->Kd->Bool
 | .mk a,.mk b=>V1 a b
def V1:List Kd->List Kd->Bool
 | [],[]=>true
 |x::xs,y::ys=>Kg x y&&V1 xs ys
 | [],_::_=>false
 |_::_,[]=>false
end
def Aux:∀(a b:List Kd),V1 a b=Cs Kg a b
 | [],[]=>by simp[V1,Cs]
 |x::xs,y::ys=>by simp[V1,Cs,Aux xs ys]
 | [],_::_=>by simp[V1,Cs]
 |_::_,[]=>by simp[V1,Cs]
def Ac7(a b:Kd):Kg a b=Cs Kg a.l b.l:=by cases a;cases b;simp[Kg,Aux,Kd.l]
def Blb(a b:Kd)(A6:∀x∈a.l,∀y,Hc 206 [Ba x,Ba y] (.bool (Kg x y))):
 Hc 206 [Ba a,Ba b] (.bool (Kg a b)):=by
 refine Hf Bf5 fun Am Q hQ=>?_;have B5:a.l.length<=1073741824:=(jt (k:=a) (by simpa[Bl,Ba,AV.fits]using Am.1)).1;clear Am;simp[Ba,Df a,Df b];refine C3 (fun hb=>?_) (fun hb=>?_)
 . have e:Kg a b=false:=by rw[Ac7]; exact Vq _ _ _ (by simp at hb;omega)
   simp;exact hQ
 have Oe:a.l.length=b.l.length:=by simp at hb;omega
 simp;refine WL [] (fun n f h G=>∃k:Nat,k+n=a.l.length/\f 5= .int .i64 k/\Cs Kg (a.l.drop k) (b.l.drop k)=Kg a b) (a.l.length) Ab ⟨0,Ab,rfl,by simp[Ac7]⟩ ?_;rintro n f h G ⟨k,hk,h5,hs⟩ Q2 Aj;simp[h5];by_cases Af:k<a.l.length
 . have Gm:k<b.l.length:=by omega
   have hd:=Ct Af;have Dy:=Ct Gm;simp[Af];refine Wd ?_;simp[Af,Gm];refine Da (A6 a.l[k] (Cy _) b.l[k]) ?_;simp;cases hv:Kg a.l[k] b.l[k]
   . have e:Kg a b=false:=by rw[<- hs,hd,Dy]; simp[Cs,hv]
     simp;refine Aj (Lr ?_);simp;exact hQ
   simp[Au (n:=(k:Int)+1) Aa Aa];refine Aj (Ln h ?_);refine⟨k+1,Aa,Ab,?_⟩;rw[<- hs,hd,Dy]; simp[Cs,hv]
 have e:Kg a b=true:=by rw[<- hs,Cm Aa,Cm Aa]; simp[Cs]
 simp[Af];refine Aj (Lx ?_);simp;exact hQ
def od(a b:Kd):Hc 206 [Ba a,Ba b] (.bool (Kg a b)):=
 Blb a b fun x _ y=>od x y
termination_by SizeOf.sizeOf a
decreasing_by exact Kd.lt_l ‹_›
def Bpj(a b:B6)(p:Kd->Kd->Bool)(m:Nat)(hp:∀x∈a,∀y,Hc m [Ba x,Ba y] (.bool (p x y))):
 Hc 363 [.sl .none (a.map Ak),.sl .none (b.map Ak),.fn (.func m) [] []] (.bool (Cs p a b)):=by
 refine Hf Bix fun Am Q hQ=>?_;have B5:a.length<=1073741824:=by simpa[Bl,AV.fits,A1]using Am.1.1
 clear Am;simp;refine C3 (fun hb=>?_) (fun hb=>?_)
 . have e:Cs p a b=false:=Vq _ _ _ (by simp at hb;omega);simp;exact hQ
 have Oe:a.length=b.length:=by simp at hb;omega
 simp;refine WL [] (fun n f h G=>∃k:Nat,k+n=a.length/\f 17= .int .i64 k/\Cs p (a.drop k) (b.drop k)=Cs p a b) (a.length) Ab ⟨0,Ab,rfl,Ab⟩ ?_;rintro n f h G ⟨k,hk,R5,hs⟩ Q2 Aj;simp[R5];by_cases Af:k<a.length
 . have Gm:k<b.length:=by omega
   have hd:=Ct Af;have Dy:=Ct Gm;simp[Af,Gm];refine Ca (hp a[k] (Cy _) b[k]) ?_;simp;cases hv:p a[k] b[k]
   . have e:Cs p a b=false:=by rw[<- hs,hd,Dy]; simp[Cs,hv]
     simp;refine Aj (Lr ?_);simp;exact hQ
   simp[Au (n:=(k:Int)+1) Aa Aa];refine Aj (Ln h ?_);refine⟨k+1,Aa,Ab,?_⟩;rw[<- hs,hd,Dy]; simp[Cs,hv]
 have e:Cs p a b=true:=by rw[<- hs,Cm Aa,Cm Aa]; simp[Cs]
 simp[Af];refine Aj (Lx ?_);simp;exact hQ
def Br7(a b:Kd)(A6:∀x∈a.l,∀y,Hc 328 [Ba x,Ba y] (.bool (Kg x y))):
 Hc 328 [Ba a,Ba b] (.bool (Kg a b)):=by
 refine Hg Bki fun Q hQ=>?_;simp[Ba,Df a,Df b];refine Ca (Bpj a.l b.l Kg _ A6) ?_;simp;exact hQ (by simp[Ac7 a b])
def A2b(a b:Kd):Hc 328 [Ba a,Ba b] (.bool (Kg a b)):=
 Br7 a b fun x _ y=>A2b x y
termination_by SizeOf.sizeOf a
decreasing_by exact Kd.lt_l ‹_›
