/- Joined: Aw1 Aw2. -/
import Derived.Test.YtemdkfnenjpioaaGreatDoorG29
set_option linter.unusedSimpArgs false
set_option linter.unusedVariables false
set_option linter.unusedSectionVars false
set_option linter.all false
set_option maxHeartbeats 4000000
set_option maxRecDepth 10000
namespace Go.Proofs.YtemdkfnenjpioaaGreatDoor
open Go
def awTab (f:FuncId):Option (AC × Nat × List Dv):=
 cond (Nat.beq f Sq) (some (Aim,35,[(.cell 4 true 18),(.tmp 5)])) <|
 cond (Nat.beq f Nr) (some (Abs,18,[(.cell 2 true 6),(.tmp 3)])) <|
 cond (Nat.beq f Wt) (some (Af7,7,[(.cell 2 true 18)])) <|
 cond (Nat.beq f N7) (some (Zm,8,[(.cell 2 true 1)])) <|
 cond (Nat.beq f Mr) (some (Uy,9,[(.cell 2 true 18),(.tmp 3)])) <|
 cond (Nat.beq f Ky) (some (Zb,22,[(.cell 2 true 1)])) <|
 cond (Nat.beq f Gi) (some (Acw,11,[(.tmp 2)])) <|
 cond (Nat.beq f Il) (some (N9,67,[(.tmp 6),(.tmp 7)])) <|
 cond (Nat.beq f L6) (some (Abt,12,[(.tmp 2)])) <|
 cond (Nat.beq f Rz) (some (Ac6,67,[(.tmp 2)])) <|
 cond (Nat.beq f Hq) (some (Zy,19,[(.tmp 2)])) <|
 cond (Nat.beq f O7) (some (Wj,10,[(.tmp 4)])) <|
 cond (Nat.beq f Rs) (some (Aes,41,[(.tmp 2)])) <|
 cond (Nat.beq f Ru) (some (Acp,48,[(.tmp 2)])) <|
 cond (Nat.beq f Sw) (some (Aco,40,[(.tmp 2)])) <|
 cond (Nat.beq f Ty) (some (Yw,20,[(.tmp 2)])) <|
 cond (Nat.beq f Rq) (some (Aac,6,[(.tmp 2)])) <|
 cond (Nat.beq f M5) (some (Aag,20,[(.tmp 2)])) <|
 cond (Nat.beq f Jk) (some (Aap,9,[(.tmp 4)])) <|
 cond (Nat.beq f Mh) (some (Z3,6,[(.tmp 2)])) <|
 cond (Nat.beq f Rr) (some (Aaa,9,[(.tmp 2)])) <|
 cond (Nat.beq f Mo) (some (Aa3,23,[(.tmp 2)])) <|
 cond (Nat.beq f Ki) (some (Abb,45,[(.tmp 4)])) <|
 cond (Nat.beq f Q4) (some (Zz,19,[(.tmp 4)])) <|
 cond (Nat.beq f L1) (some (Adc,30,[(.tmp 2)])) <|
 cond (Nat.beq f S4) (some (Acc,32,[(.tmp 6)])) <|
 cond (Nat.beq f Tg) (some (Y2,26,[(.tmp 4)])) <|
 cond (Nat.beq f Lf) (some (Aaf,10,[(.tmp 4)])) <|
 cond (Nat.beq f Q7) (some (Ac3,32,[(.tmp 6)])) <|
 cond (Nat.beq f Nt) (some (Aot,22,[(.tmp 2),(.tmp 3)])) <|
 cond (Nat.beq f Jg) (some (Ajx,145,[])) <|
 cond (Nat.beq f Qo) (some (Agi,8,[(.tmp 2)])) <|
 cond (Nat.beq f Rw) (some (Aiy,18,[(.tmp 2),(.tmp 3)])) <|
 cond (Nat.beq f Xh) (some (Aiv,12,[(.tmp 2)])) <|
 cond (Nat.beq f Rk) (some (Aqb,34,[])) <|
 cond (Nat.beq f D6) (some (Alj,18,[])) <|
 cond (Nat.beq f Sl) (some (Aij,5,[(.tmp 2)])) <|
 cond (Nat.beq f Pk) (some (Aoq,37,[])) <|
 cond (Nat.beq f T3) (some (Ajt,19,[(.tmp 4),(.tmp 5)])) <|
 cond (Nat.beq f Wu) (some (Ahw,5,[(.tmp 2)])) <|
 cond (Nat.beq f Mq) (some (Ald,17,[(.tmp 4)])) <|
 cond (Nat.beq f V9) (some (Aoe,54,[(.tmp 4)])) <|
 cond (Nat.beq f Yj) (some (Apa,15,[(.tmp 2)])) <|
 cond (Nat.beq f Xy) (some (Afw,15,[(.tmp 2)])) <|
 cond (Nat.beq f Wi) (some (Anu,25,[(.tmp 2)])) <|
 cond (Nat.beq f Ye) (some (Aql,6,[(.tmp 2)])) <|
 cond (Nat.beq f Mf) (some (Aay,23,[(.cell 2 true 14),(.tmp 3)])) <|
 cond (Nat.beq f Ni) (some (Ad3,15,[(.cell 4 true 14),(.tmp 5)])) <|
 cond (Nat.beq f Lx) (some (Zu,11,[(.tmp 2)])) <|
 cond (Nat.beq f Sa) (some (Yx,8,[(.cell 2 true 14),(.tmp 3)])) <|
 cond (Nat.beq f Ks) (some (Aa1,59,[(.tmp 6),(.tmp 7)])) <|
 cond (Nat.beq f Jh) (some (Z0,82,[(.cell 6 true 14),(.tmp 7)])) <|
 cond (Nat.beq f Pu) (some (Abh,10,[(.cell 4 true 6),(.tmp 5)])) <|
 cond (Nat.beq f Lb) (some (Aci,13,[(.tmp 2)])) <|
 cond (Nat.beq f Tv) (some (Ac1,138,[(.tmp 2)])) <|
 cond (Nat.beq f R1) (some (Acy,28,[(.tmp 4)])) <|
 cond (Nat.beq f Qc) (some (Tx,8,[(.tmp 2)])) <|
 cond (Nat.beq f Iq) (some (Tp,8,[(.tmp 2)])) <|
 cond (Nat.beq f Ih) (some (Ts,20,[(.cell 2 true 6),(.tmp 3)])) <|
 cond (Nat.beq f Nk) (some (Z2,5,[(.tmp 2)])) <|
 cond (Nat.beq f Nq) (some (Ze,11,[(.tmp 2)])) <|
 cond (Nat.beq f Su) (some (Ib,86,[(.tmp 2)])) <|
 cond (Nat.beq f Lm) (some (Abn,32,[(.cell 2 true 6)])) <|
 cond (Nat.beq f O3) (some (Aex,17,[(.cell 2 true 6),(.tmp 3)])) <|
 cond (Nat.beq f Pp) (some (Adp,38,[(.tmp 4)])) <|
 cond (Nat.beq f Sf) (some (Aax,6,[(.tmp 2)])) <|
 cond (Nat.beq f Jb) (some (U9,9,[(.tmp 4)])) <|
 cond (Nat.beq f Q1) (some (Aen,45,[(.tmp 4)])) <|
 cond (Nat.beq f Lz) (some (Ae1,11,[(.tmp 2)])) <|
 cond (Nat.beq f Ll) (some (Aby,22,[(.cell 2 true 1)])) <|
 cond (Nat.beq f Ng) (some (Up,87,[(.cell 4 true 6)])) <|
 cond (Nat.beq f Ok) (some (Xu,19,[(.tmp 4)])) <|
 cond (Nat.beq f Tl) (some (Acq,27,[(.tmp 2),(.tmp 3),(.tmp 4)])) <|
 cond (Nat.beq f Tb) (some (Ab8,48,[(.cell 6 true 6)])) <|
 cond (Nat.beq f O8) (some (Ac8,28,[(.cell 4 true 6)])) <|
 cond (Nat.beq f Nu) (some (Sv,43,[(.tmp 2)])) <|
 cond (Nat.beq f R7) (some (S9,15,[(.tmp 4)])) <|
 cond (Nat.beq f Rn) (some (Aad,14,[(.tmp 2)])) <|
 cond (Nat.beq f S0) (some (Ad6,11,[(.tmp 4),(.tmp 5)])) <|
 cond (Nat.beq f Lu) (some (Adq,30,[(.tmp 2),(.tmp 3)])) <|
 cond (Nat.beq f Kb) (some (Aed,21,[(.tmp 4)])) <|
 cond (Nat.beq f T7) (some (Ael,10,[(.tmp 2)])) <|
 cond (Nat.beq f R9) (some (Aeb,15,[(.tmp 4),(.tmp 5)])) <|
 cond (Nat.beq f S1) (some (Aet,17,[(.tmp 2)])) <|
 cond (Nat.beq f Mn) (some (Abp,7,[(.tmp 3)])) <|
 cond (Nat.beq f Fk) (some (W8,9,[(.tmp 4)])) <|
 cond (Nat.beq f Rg) (some (Aam,6,[(.tmp 2)])) <|
 cond (Nat.beq f Sz) (some (Aea,18,[(.tmp 4)])) <|
 cond (Nat.beq f Qi) (some (Vl,19,[(.tmp 4)])) <|
 cond (Nat.beq f Sr) (some (Zr,9,[(.tmp 4)])) <|
 cond (Nat.beq f Ry) (some (Ajq,106,[(.tmp 2)])) <|
 cond (Nat.beq f Tj) (some (Ab0,19,[(.tmp 4)])) <|
 cond (Nat.beq f Yk) (some (Aqa,65,[(.tmp 4)])) <|
 cond (Nat.beq f Uf) (some (Agh,19,[(.tmp 2)])) <|
 cond (Nat.beq f Xx) (some (Ama,144,[(.cell 4 true 35)])) <|
 cond (Nat.beq f Xn) (some (Alp,53,[(.cell 4 true 1),(.tmp 5)])) <|
 cond (Nat.beq f Fj) (some (Adz,7,[])) <|
 cond (Nat.beq f Io) (some (Ux,19,[(.cell 6 true 14)])) <|
 cond (Nat.beq f Vf) (some (Aqh,17,[(.tmp 2)])) <|
 cond (Nat.beq f Ob) (some (Air,22,[(.cell 2 true 1)])) <|
 cond (Nat.beq f W0) (some (Amj,9,[(.cell 4 true 1)])) <|
 cond (Nat.beq f Pt) (some (Anq,10,[(.cell 2 true 35)])) <|
 cond (Nat.beq f Gv) (some (Jf,47,[(.tmp 2)])) <|
 cond (Nat.beq f Pz) (some (Aca,6,[(.tmp 2)])) <|
 cond (Nat.beq f N4) (some (V7,11,[(.tmp 2)])) <|
 cond (Nat.beq f K8) (some (Zg,13,[(.tmp 2)])) <|
 cond (Nat.beq f Py) (some (Ac9,6,[(.tmp 2)])) <|
 cond (Nat.beq f Pv) (some (Ace,6,[(.tmp 2)])) <|
 cond (Nat.beq f Rx) (some (Ap3,10,[(.cell 2 true 6)])) <|
 cond (Nat.beq f Tz) (some (Aq1,13,[(.cell 2 true 6)])) <|
 cond (Nat.beq f Rt) (some (Aeo,95,[(.tmp 0)])) <|
 none
theorem Jz (f:FuncId) (ac:AC) (n:Nat) (rs:List Dv) (h:awTab f=some (ac,n,rs)):Ad Tryz.prog f ac n rs:=by
 unfold awTab at h
 cases hb:Nat.beq f Sq<;>rw[hb] at h<;>simp only[cond_true,cond_false] at h
 case' true=>cases h;rw[Nat.eq_of_beq_eq_true hb]; exact Asj
 cases hb:Nat.beq f Nr<;>rw[hb] at h<;>simp only[cond_true,cond_false] at h
 case' true=>cases h;rw[Nat.eq_of_beq_eq_true hb]; exact Ah4
 cases hb:Nat.beq f Wt<;>rw[hb] at h<;>simp only[cond_true,cond_false] at h
 case' true=>cases h;rw[Nat.eq_of_beq_eq_true hb]; exact A2r
 cases hb:Nat.beq f N7<;>rw[hb] at h<;>simp only[cond_true,cond_false] at h
 case' true=>cases h;rw[Nat.eq_of_beq_eq_true hb]; exact Apk
 cases hb:Nat.beq f Mr<;>rw[hb] at h<;>simp only[cond_true,cond_false] at h
 case' true=>cases h;rw[Nat.eq_of_beq_eq_true hb]; exact Adt
 cases hb:Nat.beq f Ky<;>rw[hb] at h<;>simp only[cond_true,cond_false] at h
 case' true=>cases h;rw[Nat.eq_of_beq_eq_true hb]; exact Agl
 cases hb:Nat.beq f Gi<;>rw[hb] at h<;>simp only[cond_true,cond_false] at h
 case' true=>cases h;rw[Nat.eq_of_beq_eq_true hb]; exact Anl
 cases hb:Nat.beq f Il<;>rw[hb] at h<;>simp only[cond_true,cond_false] at h
 case' true=>cases h;rw[Nat.eq_of_beq_eq_true hb]; exact Abe
 cases hb:Nat.beq f L6<;>rw[hb] at h<;>simp only[cond_true,cond_false] at h
 case' true=>cases h;rw[Nat.eq_of_beq_eq_true hb]; exact Ak4
 cases hb:Nat.beq f Rz<;>rw[hb] at h<;>simp only[cond_true,cond_false] at h
 case' true=>cases h;rw[Nat.eq_of_beq_eq_true hb]; exact Aox
 cases hb:Nat.beq f Hq<;>rw[hb] at h<;>simp only[cond_true,cond_false] at h
 case' true=>cases h;rw[Nat.eq_of_beq_eq_true hb]; exact Anv
 cases hb:Nat.beq f O7<;>rw[hb] at h<;>simp only[cond_true,cond_false] at h
 case' true=>cases h;rw[Nat.eq_of_beq_eq_true hb]; exact Y1
 cases hb:Nat.beq f Rs<;>rw[hb] at h<;>simp only[cond_true,cond_false] at h
 case' true=>cases h;rw[Nat.eq_of_beq_eq_true hb]; exact Afk
 cases hb:Nat.beq f Ru<;>rw[hb] at h<;>simp only[cond_true,cond_false] at h
 case' true=>cases h;rw[Nat.eq_of_beq_eq_true hb]; exact Aoc
 cases hb:Nat.beq f Sw<;>rw[hb] at h<;>simp only[cond_true,cond_false] at h
 case' true=>cases h;rw[Nat.eq_of_beq_eq_true hb]; exact Ag3
 cases hb:Nat.beq f Ty<;>rw[hb] at h<;>simp only[cond_true,cond_false] at h
 case' true=>cases h;rw[Nat.eq_of_beq_eq_true hb]; exact Alx
 cases hb:Nat.beq f Rq<;>rw[hb] at h<;>simp only[cond_true,cond_false] at h
 case' true=>cases h;rw[Nat.eq_of_beq_eq_true hb]; exact Age
 cases hb:Nat.beq f M5<;>rw[hb] at h<;>simp only[cond_true,cond_false] at h
 case' true=>cases h;rw[Nat.eq_of_beq_eq_true hb]; exact Ai6
 cases hb:Nat.beq f Jk<;>rw[hb] at h<;>simp only[cond_true,cond_false] at h
 case' true=>cases h;rw[Nat.eq_of_beq_eq_true hb]; exact Ao6
 cases hb:Nat.beq f Mh<;>rw[hb] at h<;>simp only[cond_true,cond_false] at h
 case' true=>cases h;rw[Nat.eq_of_beq_eq_true hb]; exact Aqo
 cases hb:Nat.beq f Rr<;>rw[hb] at h<;>simp only[cond_true,cond_false] at h
 case' true=>cases h;rw[Nat.eq_of_beq_eq_true hb]; exact Ahh
 cases hb:Nat.beq f Mo<;>rw[hb] at h<;>simp only[cond_true,cond_false] at h
 case' true=>cases h;rw[Nat.eq_of_beq_eq_true hb]; exact Aov
 cases hb:Nat.beq f Ki<;>rw[hb] at h<;>simp only[cond_true,cond_false] at h
 case' true=>cases h;rw[Nat.eq_of_beq_eq_true hb]; exact Akq
 cases hb:Nat.beq f Q4<;>rw[hb] at h<;>simp only[cond_true,cond_false] at h
 case' true=>cases h;rw[Nat.eq_of_beq_eq_true hb]; exact Aob
 cases hb:Nat.beq f L1<;>rw[hb] at h<;>simp only[cond_true,cond_false] at h
 case' true=>cases h;rw[Nat.eq_of_beq_eq_true hb]; exact Ape
 cases hb:Nat.beq f S4<;>rw[hb] at h<;>simp only[cond_true,cond_false] at h
 case' true=>cases h;rw[Nat.eq_of_beq_eq_true hb]; exact Agq
 cases hb:Nat.beq f Tg<;>rw[hb] at h<;>simp only[cond_true,cond_false] at h
 case' true=>cases h;rw[Nat.eq_of_beq_eq_true hb]; exact Anh
 cases hb:Nat.beq f Lf<;>rw[hb] at h<;>simp only[cond_true,cond_false] at h
 case' true=>cases h;rw[Nat.eq_of_beq_eq_true hb]; exact Akm
 cases hb:Nat.beq f Q7<;>rw[hb] at h<;>simp only[cond_true,cond_false] at h
 case' true=>cases h;rw[Nat.eq_of_beq_eq_true hb]; exact Apv
 cases hb:Nat.beq f Nt<;>rw[hb] at h<;>simp only[cond_true,cond_false] at h
 case' true=>cases h;rw[Nat.eq_of_beq_eq_true hb]; exact Av8
 cases hb:Nat.beq f Jg<;>rw[hb] at h<;>simp only[cond_true,cond_false] at h
 case' true=>cases h;rw[Nat.eq_of_beq_eq_true hb]; exact Ayp
 cases hb:Nat.beq f Qo<;>rw[hb] at h<;>simp only[cond_true,cond_false] at h
 case' true=>cases h;rw[Nat.eq_of_beq_eq_true hb]; exact A25
 cases hb:Nat.beq f Rw<;>rw[hb] at h<;>simp only[cond_true,cond_false] at h
 case' true=>cases h;rw[Nat.eq_of_beq_eq_true hb]; exact Ayd
 cases hb:Nat.beq f Xh<;>rw[hb] at h<;>simp only[cond_true,cond_false] at h
 case' true=>cases h;rw[Nat.eq_of_beq_eq_true hb]; exact A2a
 cases hb:Nat.beq f Rk<;>rw[hb] at h<;>simp only[cond_true,cond_false] at h
 case' true=>cases h;rw[Nat.eq_of_beq_eq_true hb]; exact Av0
 cases hb:Nat.beq f D6<;>rw[hb] at h<;>simp only[cond_true,cond_false] at h
 case' true=>cases h;rw[Nat.eq_of_beq_eq_true hb]; exact Axi
 cases hb:Nat.beq f Sl<;>rw[hb] at h<;>simp only[cond_true,cond_false] at h
 case' true=>cases h;rw[Nat.eq_of_beq_eq_true hb]; exact Atd
 cases hb:Nat.beq f Pk<;>rw[hb] at h<;>simp only[cond_true,cond_false] at h
 case' true=>cases h;rw[Nat.eq_of_beq_eq_true hb]; exact A0t
 cases hb:Nat.beq f T3<;>rw[hb] at h<;>simp only[cond_true,cond_false] at h
 case' true=>cases h;rw[Nat.eq_of_beq_eq_true hb]; exact Azx
 cases hb:Nat.beq f Wu<;>rw[hb] at h<;>simp only[cond_true,cond_false] at h
 case' true=>cases h;rw[Nat.eq_of_beq_eq_true hb]; exact A3c
 cases hb:Nat.beq f Mq<;>rw[hb] at h<;>simp only[cond_true,cond_false] at h
 case' true=>cases h;rw[Nat.eq_of_beq_eq_true hb]; exact A1w
 cases hb:Nat.beq f V9<;>rw[hb] at h<;>simp only[cond_true,cond_false] at h
 case' true=>cases h;rw[Nat.eq_of_beq_eq_true hb]; exact Aue
 cases hb:Nat.beq f Yj<;>rw[hb] at h<;>simp only[cond_true,cond_false] at h
 case' true=>cases h;rw[Nat.eq_of_beq_eq_true hb]; exact Az7
 cases hb:Nat.beq f Xy<;>rw[hb] at h<;>simp only[cond_true,cond_false] at h
 case' true=>cases h;rw[Nat.eq_of_beq_eq_true hb]; exact A1d
 cases hb:Nat.beq f Wi<;>rw[hb] at h<;>simp only[cond_true,cond_false] at h
 case' true=>cases h;rw[Nat.eq_of_beq_eq_true hb]; exact A0d
 cases hb:Nat.beq f Ye<;>rw[hb] at h<;>simp only[cond_true,cond_false] at h
 case' true=>cases h;rw[Nat.eq_of_beq_eq_true hb]; exact Aug
 cases hb:Nat.beq f Mf<;>rw[hb] at h<;>simp only[cond_true,cond_false] at h
 case' true=>cases h;rw[Nat.eq_of_beq_eq_true hb]; exact Ags
 cases hb:Nat.beq f Ni<;>rw[hb] at h<;>simp only[cond_true,cond_false] at h
 case' true=>cases h;rw[Nat.eq_of_beq_eq_true hb]; exact Ahk
 cases hb:Nat.beq f Lx<;>rw[hb] at h<;>simp only[cond_true,cond_false] at h
 case' true=>cases h;rw[Nat.eq_of_beq_eq_true hb]; exact Aga
 cases hb:Nat.beq f Sa<;>rw[hb] at h<;>simp only[cond_true,cond_false] at h
 case' true=>cases h;rw[Nat.eq_of_beq_eq_true hb]; exact Alu
 cases hb:Nat.beq f Ks<;>rw[hb] at h<;>simp only[cond_true,cond_false] at h
 case' true=>cases h;rw[Nat.eq_of_beq_eq_true hb]; exact Al6
 cases hb:Nat.beq f Jh<;>rw[hb] at h<;>simp only[cond_true,cond_false] at h
 case' true=>cases h;rw[Nat.eq_of_beq_eq_true hb]; exact Ans
 cases hb:Nat.beq f Pu<;>rw[hb] at h<;>simp only[cond_true,cond_false] at h
 case' true=>cases h;rw[Nat.eq_of_beq_eq_true hb]; exact Aly
 cases hb:Nat.beq f Lb<;>rw[hb] at h<;>simp only[cond_true,cond_false] at h
 case' true=>cases h;rw[Nat.eq_of_beq_eq_true hb]; exact Aqy
 cases hb:Nat.beq f Tv<;>rw[hb] at h<;>simp only[cond_true,cond_false] at h
 case' true=>cases h;rw[Nat.eq_of_beq_eq_true hb]; exact Aqu
 cases hb:Nat.beq f R1<;>rw[hb] at h<;>simp only[cond_true,cond_false] at h
 case' true=>cases h;rw[Nat.eq_of_beq_eq_true hb]; exact Ail
 cases hb:Nat.beq f Qc<;>rw[hb] at h<;>simp only[cond_true,cond_false] at h
 case' true=>cases h;rw[Nat.eq_of_beq_eq_true hb]; exact Xe
 cases hb:Nat.beq f Iq<;>rw[hb] at h<;>simp only[cond_true,cond_false] at h
 case' true=>cases h;rw[Nat.eq_of_beq_eq_true hb]; exact Yc
 cases hb:Nat.beq f Ih<;>rw[hb] at h<;>simp only[cond_true,cond_false] at h
 case' true=>cases h;rw[Nat.eq_of_beq_eq_true hb]; exact Yi
 cases hb:Nat.beq f Nk<;>rw[hb] at h<;>simp only[cond_true,cond_false] at h
 case' true=>cases h;rw[Nat.eq_of_beq_eq_true hb]; exact Aok
 cases hb:Nat.beq f Nq<;>rw[hb] at h<;>simp only[cond_true,cond_false] at h
 case' true=>cases h;rw[Nat.eq_of_beq_eq_true hb]; exact Apg
 cases hb:Nat.beq f Su<;>rw[hb] at h<;>simp only[cond_true,cond_false] at h
 case' true=>cases h;rw[Nat.eq_of_beq_eq_true hb]; exact Al5
 cases hb:Nat.beq f Lm<;>rw[hb] at h<;>simp only[cond_true,cond_false] at h
 case' true=>cases h;rw[Nat.eq_of_beq_eq_true hb]; exact Afv
 cases hb:Nat.beq f O3<;>rw[hb] at h<;>simp only[cond_true,cond_false] at h
 case' true=>cases h;rw[Nat.eq_of_beq_eq_true hb]; exact Afz
 cases hb:Nat.beq f Pp<;>rw[hb] at h<;>simp only[cond_true,cond_false] at h
 case' true=>cases h;rw[Nat.eq_of_beq_eq_true hb]; exact Ap0
 cases hb:Nat.beq f Sf<;>rw[hb] at h<;>simp only[cond_true,cond_false] at h
 case' true=>cases h;rw[Nat.eq_of_beq_eq_true hb]; exact Af4
 cases hb:Nat.beq f Jb<;>rw[hb] at h<;>simp only[cond_true,cond_false] at h
 case' true=>cases h;rw[Nat.eq_of_beq_eq_true hb]; exact Abc
 cases hb:Nat.beq f Q1<;>rw[hb] at h<;>simp only[cond_true,cond_false] at h
 case' true=>cases h;rw[Nat.eq_of_beq_eq_true hb]; exact Amy
 cases hb:Nat.beq f Lz<;>rw[hb] at h<;>simp only[cond_true,cond_false] at h
 case' true=>cases h;rw[Nat.eq_of_beq_eq_true hb]; exact Apw
 cases hb:Nat.beq f Ll<;>rw[hb] at h<;>simp only[cond_true,cond_false] at h
 case' true=>cases h;rw[Nat.eq_of_beq_eq_true hb]; exact Alb
 cases hb:Nat.beq f Ng<;>rw[hb] at h<;>simp only[cond_true,cond_false] at h
 case' true=>cases h;rw[Nat.eq_of_beq_eq_true hb]; exact Abg
 cases hb:Nat.beq f Ok<;>rw[hb] at h<;>simp only[cond_true,cond_false] at h
 case' true=>cases h;rw[Nat.eq_of_beq_eq_true hb]; exact Abi
 cases hb:Nat.beq f Tl<;>rw[hb] at h<;>simp only[cond_true,cond_false] at h
 case' true=>cases h;rw[Nat.eq_of_beq_eq_true hb]; exact Akh
 cases hb:Nat.beq f Tb<;>rw[hb] at h<;>simp only[cond_true,cond_false] at h
 case' true=>cases h;rw[Nat.eq_of_beq_eq_true hb]; exact Ano
 cases hb:Nat.beq f O8<;>rw[hb] at h<;>simp only[cond_true,cond_false] at h
 case' true=>cases h;rw[Nat.eq_of_beq_eq_true hb]; exact Agu
 cases hb:Nat.beq f Nu<;>rw[hb] at h<;>simp only[cond_true,cond_false] at h
 case' true=>cases h;rw[Nat.eq_of_beq_eq_true hb]; exact Xj
 cases hb:Nat.beq f R7<;>rw[hb] at h<;>simp only[cond_true,cond_false] at h
 case' true=>cases h;rw[Nat.eq_of_beq_eq_true hb]; exact Ahb
 cases hb:Nat.beq f Rn<;>rw[hb] at h<;>simp only[cond_true,cond_false] at h
 case' true=>cases h;rw[Nat.eq_of_beq_eq_true hb]; exact Agw
 cases hb:Nat.beq f S0<;>rw[hb] at h<;>simp only[cond_true,cond_false] at h
 case' true=>cases h;rw[Nat.eq_of_beq_eq_true hb]; exact Ai9
 cases hb:Nat.beq f Lu<;>rw[hb] at h<;>simp only[cond_true,cond_false] at h
 case' true=>cases h;rw[Nat.eq_of_beq_eq_true hb]; exact Amt
 cases hb:Nat.beq f Kb<;>rw[hb] at h<;>simp only[cond_true,cond_false] at h
 case' true=>cases h;rw[Nat.eq_of_beq_eq_true hb]; exact Ahc
 cases hb:Nat.beq f T7<;>rw[hb] at h<;>simp only[cond_true,cond_false] at h
 case' true=>cases h;rw[Nat.eq_of_beq_eq_true hb]; exact Agr
 cases hb:Nat.beq f R9<;>rw[hb] at h<;>simp only[cond_true,cond_false] at h
 case' true=>cases h;rw[Nat.eq_of_beq_eq_true hb]; exact Amr
 cases hb:Nat.beq f S1<;>rw[hb] at h<;>simp only[cond_true,cond_false] at h
 case' true=>cases h;rw[Nat.eq_of_beq_eq_true hb]; exact Ap5
 cases hb:Nat.beq f Mn<;>rw[hb] at h<;>simp only[cond_true,cond_false] at h
 case' true=>cases h;rw[Nat.eq_of_beq_eq_true hb]; exact Amk
 cases hb:Nat.beq f Fk<;>rw[hb] at h<;>simp only[cond_true,cond_false] at h
 case' true=>cases h;rw[Nat.eq_of_beq_eq_true hb]; exact Abv
 cases hb:Nat.beq f Rg<;>rw[hb] at h<;>simp only[cond_true,cond_false] at h
 case' true=>cases h;rw[Nat.eq_of_beq_eq_true hb]; exact Ah0
 cases hb:Nat.beq f Sz<;>rw[hb] at h<;>simp only[cond_true,cond_false] at h
 case' true=>cases h;rw[Nat.eq_of_beq_eq_true hb]; exact Aqr
 cases hb:Nat.beq f Qi<;>rw[hb] at h<;>simp only[cond_true,cond_false] at h
 case' true=>cases h;rw[Nat.eq_of_beq_eq_true hb]; exact Acb
 cases hb:Nat.beq f Sr<;>rw[hb] at h<;>simp only[cond_true,cond_false] at h
 case' true=>cases h;rw[Nat.eq_of_beq_eq_true hb]; exact Ahy
 cases hb:Nat.beq f Ry<;>rw[hb] at h<;>simp only[cond_true,cond_false] at h
 case' true=>cases h;rw[Nat.eq_of_beq_eq_true hb]; exact Asl
 cases hb:Nat.beq f Tj<;>rw[hb] at h<;>simp only[cond_true,cond_false] at h
 case' true=>cases h;rw[Nat.eq_of_beq_eq_true hb]; exact Aqi
 cases hb:Nat.beq f Yk<;>rw[hb] at h<;>simp only[cond_true,cond_false] at h
 case' true=>cases h;rw[Nat.eq_of_beq_eq_true hb]; exact Avt
 cases hb:Nat.beq f Uf<;>rw[hb] at h<;>simp only[cond_true,cond_false] at h
 case' true=>cases h;rw[Nat.eq_of_beq_eq_true hb]; exact A2f
 cases hb:Nat.beq f Xx<;>rw[hb] at h<;>simp only[cond_true,cond_false] at h
 case' true=>cases h;rw[Nat.eq_of_beq_eq_true hb]; exact Azv
 cases hb:Nat.beq f Xn<;>rw[hb] at h<;>simp only[cond_true,cond_false] at h
 case' true=>cases h;rw[Nat.eq_of_beq_eq_true hb]; exact Axo
 cases hb:Nat.beq f Fj<;>rw[hb] at h<;>simp only[cond_true,cond_false] at h
 case' true=>cases h;rw[Nat.eq_of_beq_eq_true hb]; exact An4
 cases hb:Nat.beq f Io<;>rw[hb] at h<;>simp only[cond_true,cond_false] at h
 case' true=>cases h;rw[Nat.eq_of_beq_eq_true hb]; exact Aew
 cases hb:Nat.beq f Vf<;>rw[hb] at h<;>simp only[cond_true,cond_false] at h
 case' true=>cases h;rw[Nat.eq_of_beq_eq_true hb]; exact Awv
 cases hb:Nat.beq f Ob<;>rw[hb] at h<;>simp only[cond_true,cond_false] at h
 case' true=>cases h;rw[Nat.eq_of_beq_eq_true hb]; exact A0p
 cases hb:Nat.beq f W0<;>rw[hb] at h<;>simp only[cond_true,cond_false] at h
 case' true=>cases h;rw[Nat.eq_of_beq_eq_true hb]; exact A05
 cases hb:Nat.beq f Pt<;>rw[hb] at h<;>simp only[cond_true,cond_false] at h
 case' true=>cases h;rw[Nat.eq_of_beq_eq_true hb]; exact Avj
 cases hb:Nat.beq f Gv<;>rw[hb] at h<;>simp only[cond_true,cond_false] at h
 case' true=>cases h;rw[Nat.eq_of_beq_eq_true hb]; exact Kq
 cases hb:Nat.beq f Pz<;>rw[hb] at h<;>simp only[cond_true,cond_false] at h
 case' true=>cases h;rw[Nat.eq_of_beq_eq_true hb]; exact Alg
 cases hb:Nat.beq f N4<;>rw[hb] at h<;>simp only[cond_true,cond_false] at h
 case' true=>cases h;rw[Nat.eq_of_beq_eq_true hb]; exact Acf
 cases hb:Nat.beq f K8<;>rw[hb] at h<;>simp only[cond_true,cond_false] at h
 case' true=>cases h;rw[Nat.eq_of_beq_eq_true hb]; exact Afd
 cases hb:Nat.beq f Py<;>rw[hb] at h<;>simp only[cond_true,cond_false] at h
 case' true=>cases h;rw[Nat.eq_of_beq_eq_true hb]; exact Ahj
 cases hb:Nat.beq f Pv<;>rw[hb] at h<;>simp only[cond_true,cond_false] at h
 case' true=>cases h;rw[Nat.eq_of_beq_eq_true hb]; exact Af1
 cases hb:Nat.beq f Rx<;>rw[hb] at h<;>simp only[cond_true,cond_false] at h
 case' true=>cases h;rw[Nat.eq_of_beq_eq_true hb]; exact At4
 cases hb:Nat.beq f Tz<;>rw[hb] at h<;>simp only[cond_true,cond_false] at h
 case' true=>cases h;rw[Nat.eq_of_beq_eq_true hb]; exact Awl
 cases hb:Nat.beq f Rt<;>rw[hb] at h<;>simp only[cond_true,cond_false] at h
 case' true=>cases h;rw[Nat.eq_of_beq_eq_true hb]; exact Akb
 cases h
def Aae:D7:=fun f args H=>
 match Nat.beq f M4 with
 | true=>Aeg args H
 | false=>match Nat.beq f S2 with
   | true=>Aaq args H
   | false=>match Nat.beq f D3 with
     | true=>Aai args H
     | false=>match Nat.beq f Fv with
       | true=>Aal args H
       | false=>match Nat.beq f Fg with
         | true=>Aah args H
         | false=>match Nat.beq f Lv with
           | true=>Aem args H
           | false=>none
theorem Js (f:FuncId) (args:List AV) (H:List HB) (v:AV) (H':List HB) (h:Aae f args H=some (v,H')):Ab Tryz.prog f args H v H':=by
 unfold Aae at h
 split at h
 · rename_i hf;rw[Nat.eq_of_beq_eq_true hf]; exact Av1 h
 · split at h
   · rename_i hf;rw[Nat.eq_of_beq_eq_true hf]; exact Art h
   · split at h
     · rename_i hf;rw[Nat.eq_of_beq_eq_true hf]; exact Awu h
     · split at h
       · rename_i hf;rw[Nat.eq_of_beq_eq_true hf]; exact Asv h
       · split at h
         · rename_i hf;rw[Nat.eq_of_beq_eq_true hf]; exact Avm h
         · split at h
           · rename_i hf;rw[Nat.eq_of_beq_eq_true hf]; exact Awg h
           · cases h
end Go.Proofs.YtemdkfnenjpioaaGreatDoor
namespace Go.Proofs.YtemdkfnenjpioaaGreatDoor
open Go
attribute [local simp] Ar aev Ax A7 start AV.cells AV.undef Bc Be Bh Bl Bj AV.isCell Bf A1 Bi
attribute [local simp] fin A9 A8 Bb AV.strip Ay A5 AV.inScope Am A0 As
attribute [local simp] Ca Cg
attribute [-simp] Int.not_lt Int.not_le
theorem A19 {nm:Cn→Cn × Int} (c:Cn) (d:Int) (A:List HB) (hsc:As A.length A=true) (hn:Ab Tryz.prog Ih [Aa c] [] (cnE (nm c)) []):Ab Tryz.prog Pu [Aa c,.int .i64 d] A (cnE (nm c)) A:=by
 generalize nm c=p at hn ⊢
 obtain⟨r,e⟩:=p
 refine Ab.go mixed Aly (by simp) fun hfit Q hQ=>?_
 clear hfit
 simp -implicitDefEqProofs[Abh,Aa,Ac c]
 refine Ah hn (by simp) (Co _ 0) (by simp[Aa,Ac c]) ?_
 simp -implicitDefEqProofs[cnE,Aa,Ac r]
 refine hQ _ _ _ ?_
 simp -implicitDefEqProofs[hsc,cnE,Aa,Ac r]
theorem tame_nm {nm:Cn→Cn × Int} (hnm: ∀c,A6 c=true→Ab Tryz.prog Ih [Aa c] [] (cnE (nm c)) []) (s:Sm) (hf1:Ct s=true):Ab Tryz.prog Sa [An s] [] (smE (rbS (fun c _=>nm c) s 0)) []:=by
 have hreb:=Ug Pu [] [.var (B6 s),.var F6] (fun c _=>nm c) (fun b hb=>by
  match b,hb with
  | 0,_=>exact⟨_,rfl⟩
  | 1,_=>exact⟨_,rfl⟩) (fun n _=>by simp[As,Am,A0,AV.inScope,F6,Ak s]) (fun n hn=>by simp[Am])
  (fun c k hv _ _=>by simpa using A19 c k [.var (B6 s),.var F6] (by simp[As,Am,A0,AV.inScope,F6,Ak s]) (hnm c hv)) 400 s 0 (Wh hf1) (by omega) (by omega)
 generalize rbS (fun c _=>nm c) s 0=p at hreb ⊢
 obtain⟨r,e⟩:=p
 refine Ab.go mixed Alu (by simp) fun hfit Q hQ=>?_
 clear hfit
 simp -implicitDefEqProofs[Yx,An,Ak s]
 refine Br (r:=smE (r,e)) (by simpa[An,F6,Ak s] using hreb) ?_
 simp -implicitDefEqProofs[smE,An,Ak r]
 refine hQ _ _ _ ?_
 simp -implicitDefEqProofs[smE,An,Ak r]
theorem Att {nm:Cn→Cn × Int} (hnm: ∀c,A6 c=true→Ab Tryz.prog Ih [Aa c] [] (cnE (nm c)) []) (s:Sm) (hc:C1 s) (hf1:Ct s=true) (hself:rbS (fun c _=>nm c) s 0=(s,0)):Ab Tryz.prog Mf [An s] [] (smE (s,0)) []:=by
 have ht:=tame_nm hnm s hf1
 rw[hself] at ht
 have hfin:=Ade (s,0) hc
 have hfs:He (s,0)=(s,0):=by rw[He,if_neg (by simp[hf1])]
 rw[hfs] at hfin
 refine Ab.go mixed Ags (by simp) fun hfit Q hQ=>?_
 clear hfit
 simp -implicitDefEqProofs[Aay,An,Ak s]
 refine Ah (V4 s hc) (by simp) (by simp) (by simp[Ag,Aa,Ac,Al,Af,Kd.l,An,Ak]) ?_
 simp -implicitDefEqProofs[hf1]
 refine Ah ht (by simp) (Lr _ 0) (by simp[An,Ak s]) ?_
 simp -implicitDefEqProofs[smE,An,Ak s]
 refine Ah hfin (by simp) (Lr _ 0) (by simp[An,Ak s]) ?_
 simp -implicitDefEqProofs[smE,An,Ak s]
 refine hQ _ _ _ ?_
 simp -implicitDefEqProofs[smE,An,Ak s]
def Qy:Cn:=.mk 4 0 [] (.mk []) [] []
def aw_tt:List UInt8:=[116,121,112,101,46,116]
def Eu:Cn:=Eo 12 (Eo 12 (Ef 2) (Ef 1)) (Ef 0)
def Is:Sm:=.mk 5 0 [] Az (.mk []) [] [] [aw_tt] [.mk 2 0 [] (Ef 0) (.mk []) [] [] [] []]
def Fi:Sm:=.mk 5 0 [] Az (.mk []) [] [] [aw_tt] [.mk 2 0 [] Eu (.mk []) [] [] [] []]
def I9:Cn:=.mk 11 0 [] (.mk []) [] [.mk 11 0 [] (.mk []) [] [Qy]]
def Vn:Te:=.mk 6 0 [] Az Az (.mk [.mk [],.mk []]) [] [.mk 4 0 [] (Eo 12 (Ef 0) Qy) Az (.mk []) [] [.mk 1 0 [] Az Az (.mk []) [] []]]
def aw_t:Te:=.mk 10 0 [] Az Az (.mk []) [aw_tt] [Vn]
def Hv:El:=⟨[.mk []],[Qy],true,Is,aw_t⟩
theorem Aa4:C1 Is:=by
 refine (Hz _).2 ⟨by decide,fun x hx=>?_⟩
 simp only[Is,Sm.l,List.mem_cons,List.not_mem_nil,or_false] at hx
 subst hx
 exact (Hz _).2 ⟨by decide,fun x hx=>by simp[Sm.l] at hx⟩
theorem Alt:C1 Fi:=by
 refine (Hz _).2 ⟨by decide,fun x hx=>?_⟩
 simp only[Fi,Sm.l,List.mem_cons,List.not_mem_nil,or_false] at hx
 subst hx
 exact (Hz _).2 ⟨by decide,fun x hx=>by simp[Sm.l] at hx⟩
set_option maxRecDepth 1000000 in
theorem aw_tame:Ab Tryz.prog O3 [Aa Eu] [] (.tup [Aa Eu,.bool true]) []:=I5 mixed Jz Js 40 _ _ [] _ [] (by kernel_rfl)
theorem aw_uv:A6 Eu=true:=by kernel_rfl
theorem Awp:Ab Tryz.prog Ih [Aa Eu] [] (cnE (Eu,0)) []:=by
 have h1:=D5 Eu (by decide)
 rw[aw_uv] at h1
 have h2:=aw_tame
 have h3:=Ack Eu
 generalize Eu=c at h1 h2 h3 ⊢
 refine Ab.go mixed Yi (by simp) fun hfit Q hQ=>?_
 clear hfit
 simp -implicitDefEqProofs[Ts,Aa,Ac c]
 refine Ah (h1) (by simp) (by simp) (by simp[Ag,Aa,Ac,Al,Af,Kd.l,An,Ak]) ?_
 simp -implicitDefEqProofs 
 refine Ah h2 (by simp) (by simp) (by simp[Aa,Ac c]) ?_
 simp -implicitDefEqProofs[Aa,Ac c]
 refine Ah h3 (by simp) (by simp) (by simp[Aa,Ac c]) ?_
 simp -implicitDefEqProofs[Aa,Ac c]
 refine hQ _ _ _ ?_
 simp -implicitDefEqProofs[cnE,Aa,Ac c]
open Classical in
noncomputable def T8 (c:Cn):Cn × Int:=if c=Eu then (Eu,0) else nmM c
theorem aw_form2:Ct Fi=true:=by kernel_rfl
theorem Axj:Ab Tryz.prog Mf [An Fi] [] (smE (Fi,0)) []:=by
 refine Att (nm:=T8) (fun c hv=>?_) Fi Alt aw_form2 ?_
 · unfold T8
   split
   · rename_i h;rw[h]; exact Awp
   · exact (nmM_call c (Ac0 hv)).1
 · have hu:T8 Eu=(Eu,0):=by rw[T8,if_pos rfl]
   have h5:D2 5=false:=by decide
   have h2:D2 2=true:=by decide
   simp[Fi,rbS,De,hu,h5,h2]
end Go.Proofs.YtemdkfnenjpioaaGreatDoor
