/- A part of the proof that LiftApplies answers true. -/
import Derived.Test.YtndkeknbfbdeeaaGreatDoorG05
import Derived.Shelf.SlicesQ.Reverse
import Derived.Shelf.SlicesE.Clone
import Derived.Test.YtndkeknbfbdeeaaGreatDoorProg
set_option linter.all false
set_option maxHeartbeats 4000000
set_option maxRecDepth 100000
namespace Go.Proofs.YtndkeknbfbdeeaaGreatDoor
open Go
variable {H H':Ai}{t:Ao}{Q:Co}{I:Nat->(Nat->AV)->(Nat->Ao)->Ai->Prop}{P:Program}
section
variable [D6]
def A32{a b:AC}{k:I7}(I:(Nat->AV)->Ai->Prop)
 (h1:∀Q':Co,(∀ t' G,Jp t a.dsts (Gv t')=t'->I (Gv t') G->Q' .normal t' (H++G))->(∀ t' H',KR P k Q t' H'->Q' .ret t' H')->WP P a [] Q' t H)
 (h2:∀f G,I f G->WP P b k Q (Jp t a.dsts f) (H++G)):WP P (.seq a b) k Q t H:=by
 rw[Az]
 have h:=h1 (kq P (.code b::k) Q) (fun t' G e hI=>by
  have:=h2 _ G hI;rw[e]at this
  exact this) (fun t' H' h=>h)
 have e:kq P [] (kq P (.code b::k) Q)=kq P (.code b::k) Q:=by funext x t H;rfl
 unfold WP at h ⊢;rw[e]at h;exact h
def Gc{a b:AC}{k:I7}(I:(Nat->AV)->Prop)
 (h1:∀Q':Co,(∀ t',Jp t a.dsts (Gv t')=t'->I (Gv t')->Q' .normal t' H)->(∀ t' H',KR P k Q t' H'->Q' .ret t' H')->WP P a [] Q' t H)
 (h2:∀f,I f->WP P b k Q (Jp t a.dsts f) H):WP P (.seq a b) k Q t H:=
 A32 (fun f G=>I f/\G=[]) (fun Q' hn hr=>h1 Q' (fun t' e hI=>by simpa using hn t' [] e ⟨hI,rfl⟩) hr) (fun f G hI=>by rw[hI.2,qb]; exact h2 f hI.1)
end
def Qh(p:Int×Bool):AV:=.tup [.int .i64 p.1,.bool p.2]
def C8(ks:List Kd)(s:Sm):AV:=.agg (.sl .none (ks.map Ak)::Bx s)
def Lu(p:Int×Int):AV:=.tup [.int .i64 p.1,.int .i64 p.2]
def Bf(p:Cn×Int):AV:=.tup [Ad p.1,.int .i64 p.2]
def Db(p:Sm×Int):AV:=.tup [An p.1,.int .i64 p.2]
def Cf(p:Te×Int):AV:=.tup [Ah p.1,.int .i64 p.2]
def Cr(p:El×Int):AV:=.tup [As p.1,.int .i64 p.2]
def Mk(r:Cn)(n:Int):AV:=.tup [Ad r,.int .i64 n]
def Oo(r:Cn)(b:Bool):AV:=.tup [Ad r,.bool b]
def Ex(r:Sm)(b:Bool):AV:=.tup [An r,.bool b]
def Hv(t:Te)(b:Bool):AV:=.tup [Ah t,.bool b]
def Pj(p:Int×Bool):AV:=.tup [.int .i64 p.1,.bool p.2]
def C2(c t:Int):AV:=.agg [.int .i64 c,.int .i64 t]
@[simp] def Bte(p:El×Int)(n:Nat):(Cr p).inScope n=true:=by simp[Cr,AV.inScope,A0]
@[simp] def Btm(p:Int×Bool)(n:Nat):(Qh p).inScope n=true:=by simp[Qh]
@[simp] def Btk(p:Int×Int)(n:Nat):(Lu p).inScope n=true:=by simp[Lu]
@[simp] def Arp(p:Cn×Int)(n:Nat):(Bf p).inScope n=true:=by simp[Bf]
@[simp] def A01(p:Sm×Int)(n:Nat):(Db p).inScope n=true:=by simp[Db,AV.inScope,A0]
@[simp] def Bqw(p:Te×Int)(n:Nat):(Cf p).inScope n=true:=by simp[Cf,AV.inScope,A0]
@[simp] def Bt0(c t:Int)(n:Nat):(C2 c t).inScope n=true:=by simp[C2]
@[simp] def Bs4(ks:B6)(s:Sm)(n:Nat):(C8 ks s).inScope n=true:=by simp[C8]
@[simp] def Btl(r:Cn)(k:Int)(n:Nat):(Mk r k).inScope n=true:=by simp[Mk]
@[simp] def Btz(r:Cn)(b:Bool)(n:Nat):(Oo r b).inScope n=true:=by simp[Oo]
@[simp] def Btj(r:Sm)(b:Bool)(n:Nat):(Ex r b).inScope n=true:=by simp[Ex]
@[simp] def Btu(t:Te)(b:Bool)(n:Nat):(Hv t b).inScope n=true:=by simp[Hv]
@[simp] def Btt(p:Int×Bool)(n:Nat):(Pj p).inScope n=true:=by simp[Pj]
abbrev HP:=C7 Tryz.prog
abbrev Hc(f:FuncId)(a:List AV)(r:AV):Prop:=C7 Tryz.prog f a [] r []
def Hf{f:FuncId}{ac:AC}{n:Nat}{rs:List Gp}(hf:Nk Tryz.prog f ac n rs){args:Ao}{res:AV}
 (h:Bl args->∀Q:Co,(∀ {x t H} (_:Gl rs res H' x t H:=by first |(simp;done)|(simp[*]; done)),Q x t H)->WP Tryz.prog ac [] Q (start args n) H) (hl:H.length<=H'.length:=by simp):C7 Tryz.prog f args H res H':=
 C7.go mixed hf hl fun a Q hQ=>h a Q (hQ _ _ _)
def Hg{f:FuncId}{ac:AC}{n:Nat}{rs:List Gp}(hf:Nk Tryz.prog f ac n rs){args:Ao}{res:AV}
 (h:∀Q:Co,(∀ {x t H} (_:Gl rs res H' x t H:=by first |(simp;done)|(simp[*]; done)),Q x t H)->WP Tryz.prog ac [] Q (start args n) H) (hl:H.length<=H'.length:=by simp):C7 Tryz.prog f args H res H':=
 Hf hf (fun _=>h) hl
def WL[D6]{a:AC}{k:I7}(bs:Ck)(I:Nat->(Nat->AV)->(Nat->Ao)->Ai->Prop)(n0:Nat)(hb:∀b∈bs,∃cs,H[b]? =some (.var cs))(h0:I n0 (Gv t) (Fs H) [])
 (hr:∀n f h G,I n f h G->∀Q2:Co,(∀ {x t' H'},Yh t a.dsts H bs I n (kq Tryz.prog k Q) x t' H'->Q2 x t' H')->WP Tryz.prog a [] Q2 (Jp t a.dsts f) (Ti H bs h++G)):WP Tryz.prog (.loop a) k Q t H:=
 Ip (A9.loopI bs I n0 hb h0 fun n f h G hI=>A9.run mixed fun Q2 Aj=>hr n f h G hI Q2 (Aj _ _ _))
def Ru[D6]{c:AC}(h:∀Q':Co,(∀ {x t H},Q x t H->Q' x t H)->WP Tryz.prog c [] Q' t H):A9 Tryz.prog c t H Q:=A9.run mixed fun Q2 Aj=>h Q2 (Aj _ _ _)
def Ln{ds bs:Ck}{t0 t':Ao}{H0:Ai}{Q:AX->Ao->Ai->Prop}{n:Nat}(h':Nat->Ao){G':Ai}
 (hI:I (n-1) (Gv t') h' G') (hH:H'=Ti H0 bs h'++G':=by rfl) (hm:n-1<n:=by omega) (ht:Jp t0 ds (Gv t')=t':=by simp):Yh t0 ds H0 bs I n Q .normal t' H':=Fo (n-1) h' hH hm ht hI
def Lx[D6]{k:I7}{ds bs:Ck}{t0 t':Ao}{H0:Ai}{n i:Nat}(h:KE P i k Q t' H'):Yh t0 ds H0 bs I n (kq P k Q) (.exit i) t' H':=h
def Lr[D6]{k:I7}{ds bs:Ck}{t0 t':Ao}{H0:Ai}{n:Nat}(h:KR P k Q t' H'):Yh t0 ds H0 bs I n (kq P k Q) .ret t' H':=h
def Wd[D6]{ops:B8}{ws:List Ck}{k:I7}(h:DR P (fun _=>true) [] H 0 ops k Q t H)(hok:K4 ops ws (H6 ops []) (Mj ops)=true:=by rfl):WP P (.draw ops ws) k Q t H:=A33 hok h
def Ca[D6]{n:FuncId}{args args0:Ao}{r:AV}{dst:Option Nat}{l:B8}{k:I7}(h:Hc n args0 r)(hn:I1 Tryz.prog l k Q (Cd t dst r) H)
 (ha:A0 0 args0=true:=by simp) (hr:r.inScope 0=true:=by simp) (he:Ce args=args0:=by first |(simp[Ba,Ad,Ap,Df,At,Kd.l,An,Av,Ah,Aq,As,A7,C8,C2]; done)|(simp[*,Ba,Ad,Ap,Df,At,Kd.l,An,Av,Ah,Aq,As,A7,C8,C2]; done)):CALL Tryz.prog (.fn (.func n) [] []) args dst l k Q t H:=Fh h ha hr he hn
def Da[D6]{V:Nat->Bool}{nq:Ck}{H0:Ai}{m:Nat}{n:FuncId}{args args0:Ao}{r:AV}{dst:Option Nat}{l:B8}{k:I7}(h:Hc n args0 r)(hn:DR Tryz.prog V nq H0 (m+1) l k Q (Cd t dst r) H)
 (ha:A0 0 args0=true:=by simp) (hr:r.inScope 0=true:=by simp) (he:Ce args=args0:=by first |(simp[Ba,Ad,Ap,Df,At,Kd.l,An,Av,Ah,Aq,As,A7,C8,C2]; done)|(simp[*,Ba,Ad,Ap,Df,At,Kd.l,An,Av,Ah,Aq,As,A7,C8,C2]; done)):Wk Tryz.prog V nq H0 m (.fn (.func n) [] []) args dst l k Q t H:=A3f h ha hr he hn
def bM:(∀ b:Bool,((!b)=true)=(b=false))/\(∀ b:Bool,(¬b=true)=(b=false))/\(∀ b:Bool,(¬b=false)=(b=true))/\(∀ b:Bool,((!b)=false)=(b=true))/\((!true)=false)/\((!false)=true)/\∀b:Bool,(!!b)=b:=by
 refine⟨?_,?_,?_,?_,rfl,rfl,?_⟩<;>intro b<;>cases b<;>simp
def bN:(∀ b:Bool,((!b)=true)=(b=false))/\(∀ b:Bool,(¬b=true)=(b=false))/\(∀ b:Bool,(¬b=false)=(b=true))/\(∀ b:Bool,((!b)=false)=(b=true))/\((!true)=false)/\((!false)=true)/\(∀ (p:Prop) [Decidable p],(decide p=true)=p)/\(∀ (p:Prop) [Decidable p],(decide p=false)=¬p)/\(∀ (p:Prop) [Decidable p],decide (¬p)= !decide p)/\∀(p:Prop) [Decidable p],(¬¬p)=p:=by
 refine⟨?_,?_,?_,?_,rfl,rfl,?_,?_,?_,?_⟩
 iterate 4 (intro b;cases b<;>simp)
 all_goals (intro p _;simp)
def Akf:AC:=(yy 4 [yB 0,yB 1,zB 7 3,zV 8 ff] (zq (yy 13 [yY 4 [],yU 13] (zk 14 (yy 8 [yV ff] .ret) .skip)) (zq (zq (yz 15 [yo (.build [.sl .nilT [],.int .i64 0,.int .i64 0,.str [],.int .i64 0,.int .i64 0,.str [],.sl .nilT [],.sl .nilT [],.sl .nilT [],.sl .nilT [],.sl .nilT [],.sl .nilT [],.sl .nilT [],.sl .nilT []] []),ym 2,yT 18 7,yT 35 4,yT 35 5,yo (.buildSl 35 z35 2 [(0,(.tmp 18)),(1,(.tmp 19))]),yY 5 [15,16,17,20],yU 21]) (zk 22 (yy 8 [yV tt] .ret) .skip)) (yy 24 [yT 35 4,yT 35 5,ym 2,yT 18 7,yY 6 [24,25,26,27],zm 23 28,yX 23 0,yX 23 1,zK 9 z35,zs 35 9 29,zm 10 30] (yy 32 [yT 35 4,yT 35 5,ym 2,yT 18 7,yY 7 [32,33,34,35],zm 31 36,yX 31 0,yX 31 1,zK 11 z35,zs 35 11 37,zm 12 38] (zq (yx 39 [yT 35 9,ym 10,yT 35 11,ym 12,yo (.build [.sl .nilT [],.int .i64 0,.int .i64 0,.str [],.int .i64 0,.int .i64 0,.str [],.sl .nilT [],.sl .nilT [],.sl .nilT [],.sl .nilT [],.sl .nilT [],.sl .nilT [],.sl .nilT [],.sl .nilT []] []),ym 2,yT 18 7,yT 35 4,yT 35 5,yo (.buildSl 35 z35 2 [(0,(.tmp 46)),(1,(.tmp 47))]),yY 9 [43,44,45,48],yY 8 [39,40,41,42,49],zm 8 50] [[],[],[],[],[],[],[],[],[],[7,8],[4,5,6,9],[0,1,2,3,10,10],[11,11,0,1,2,3,4,5,6,7,8,9,10,11]]) .ret))))))
def Awx:Fk 3 Akf 51 [.tmp 8]:=okF
def Akg:AC:=(yy 0 [yV ff] (yy 1 [zo 15 (.build z6 [(0,(1,(zi 1)))]),yK z6,zs 6 1 15] (zq (yz 16 [yo (.buildSl 1 [.str []] 1 [(0,(.cst (.str [116,121,112,101,46,116])))]),yT 6 1,yo (.build z14 [(0,(1,(zi 2))),(3,(6,(.tmp 17)))]),yo (.buildSl 14 z14 1 [(0,(.tmp 18))]),yo (.build z14 [(0,(1,(zi 5))),(12,(1,(.tmp 16))),(13,(1,(.tmp 19)))]),zK 2 z14,zs 14 2 20]) (yy 3 [zo 21 (.build z6 [(0,(1,(zi 4)))]),yK z6,zs 6 3 21] (yy 23 [yT 6 3,yo (.build z1 []),yY 10 [23,24],zm 22 25,yX 22 0,yX 22 1,zK 4 z18,zs 18 4 26,zm 5 27] (zq (yz 28 [yo (.build z1 []),yo (.buildSl 1 z1 1 [(0,(.tmp 28))]),yT 6 3,yo (.buildSl 6 z6 1 [(0,(.tmp 30))]),yT 14 2,yo (.buildSl 1 [.str []] 1 [(0,(.cst (.str [116,121,112,101,46,116])))]),yT 18 4,yo (.buildSl 18 z18 1 [(0,(.tmp 34))]),yo (.build z18 [(0,(1,(zi 10))),(16,(1,(.tmp 33))),(17,(1,(.tmp 35)))]),yo (.build z35 [(0,(1,(.tmp 29))),(1,(1,(.tmp 31))),(2,(1,(zb tt))),(3,(14,(.tmp 32))),(17,(18,(.tmp 36)))]),zK 6 z35,zs 35 6 37]) (yy 39 [yT 35 6,yo (.build z1 []),yo (.build z1 []),yo (.buildSl 1 z1 2 [(0,(.tmp 40)),(1,(.tmp 41))]),yY 11 [39,42],zm 38 43,yX 38 0,yX 38 1,yX 38 2,yX 38 3,zK 9 z14,zm 7 44,zm 8 45,zs 14 9 46,zm 10 47] (yy 49 [ym 8,yY 13 [49],yY 12 [50],zm 48 51,yX 48 0,yX 48 1,zm 11 52,zm 12 53] (yy 55 [yT 14 9,yY 14 [55],yY 12 [56],zm 54 57,yX 54 0,yX 54 1,zm 13 58,zm 14 59] (yy 60 [ym 5,yE 60 0,ym 61,yM 10 62 tt,yu .eql 63 0 62 tt,yA 62 64,ym 65,yM 7 66 tt,yh 67 66 tt,yu .eql 68 1 66 tt,yA 66 69,ym 70,yM 7 71 tt,yw (.iaddr 1 (.tmp 72) (zi 0)) 71 tt,yH 0 73 71 tt,yG 1 74 71 tt,yh 75 71 tt,yu .eql 76 2 71 tt,yA 71 77,ym 78,yM 12 79 tt,yu .eql 80 0 79 tt,yA 79 81,ym 82,yM 11 83 tt,yw (.bin .eql (.tmp 84) (.cst (.str [40,102,110,32,42,46,32,40,102,110,32,42,46,32,105,110,116,41,41]))) 83 tt,yA 83 85,ym 86,yM 14 87 tt,yu .eql 88 0 87 tt,yA 87 89,ym 90,yM 13 91 tt,yw (.bin .eql (.tmp 92) (.cst (.str [40,40,35,50,32,35,49,41,32,35,48,41]))) 91 tt,yA 91 93,zm 0 94] .ret))))))))))
def Bes:Fk 4 Akg 95 [.tmp 0]:=okF
def Akx:AC:=(yy 8 [zB 4 0,zB 6 2,yV ff] (yy 9 [yo (.alloc [.int .i64 0]),ys 1 (.tmp 9) (zi 3000)] (yy 10 [yF 0 4,yL 1 10,yY 15 [11,9],ym 12,yH 1 4 13 tt,yg 14 14 13 tt,yD 16 [.tmp 15,.tmp 9,zi 0] 13 tt,yA 13 16,ym 17,yM 1 18 tt,yZ 17 [19,9] 18 tt,yA 18 20,ym 21,yg 18 6 22 tt,yD 18 [.tmp 23,.tmp 9,zi 0] 22 tt,yA 22 24,ym 25,yM 3 26 tt,yw (.mkfn (.func 20) [] [.tmp 9]) 26 tt,yZ 19 [27,28] 26 tt,yj 29 26 tt,yA 26 30,zm 8 31] .ret)))
def Be9:Fk 5 Akx 32 [.tmp 8]:=okF
def Aji:AC:=(yy 4 [yB 0,yB 1,yB 2,yB 3,yK z35,yI 0] (zq (.block 0 (yy 11 [yT 35 4,yY 22 [11],yU 12,ym 13,yg 35 5 14 ff,yZ 22 [15] 14 ff,yj 16 14 ff,yO 14 17,ym 18,yG 1 6 19 ff,yZ 23 [20] 19 ff,yj 21 19 ff,yO 19 22,ym 23,yg 18 7 24 ff,yZ 24 [25] 24 ff,yj 26 24 ff,yO 24 27,zm 10 28] (zk 10 (yy 9 [zo 29 (.build z35 []),zs 35 8 29,yI 1] .ret) (yy 31 [yF 3 4,yF 0 31,yL 1 32,yn .neq 33 6,zm 30 34] (zk 30 (yy 9 [zo 35 (.build z35 []),zs 35 8 35,yI 12] .ret) (yy 37 [yL 1 6,yN 37,yF 3 4,yF 10 39,yL 1 40,yN 41,yr .neq 38 42,zm 36 43] (zk 36 (yy 9 [zo 44 (.build z35 []),zs 35 8 44,yI 1] .ret) .skip))))))) (yy 45 [yo (.mkfn (.func 26) [] [.tmp 4,.tmp 5,.tmp 6,.tmp 7]),yY 25 [45],yX 46 0,yX 46 1,zs 35 8 47,zm 9 48] .ret)))
def cy:Fk 6 Aji 49 [.cell 8 true 35,.tmp 9]:=okF
def Ant:AC:=(yy 7 [zB 4 0,zB 5 1,yB 3,yK z35,yI 0] (zq (yy 32 [yT 35 4,yY 39 [32],yU 33,ym 34,yg 35 5 35 ff,yZ 39 [36] 35 ff,yj 37 35 ff,yO 35 38,ym 39,yM 2 40 ff,yZ 40 [41] 40 ff,yj 42 40 ff,yO 40 43,ym 44,yg 18 7 45 ff,yZ 41 [46] 45 ff,yj 47 45 ff,yO 45 48] (zk 49 (yy 9 [zo 50 (.build z35 []),zs 35 8 50,yI 1] .ret) .skip)) (zq (yy 51 [yF 3 4,yF 0 51,yL 1 52,yn .neq 53 6] (zk 54 (yy 9 [zo 55 (.build z35 []),zs 35 8 55,yI 12] .ret) .skip)) (zq (yy 56 [ym 2,yN 56,yF 3 4,yF 10 58,yL 1 59,yN 60,yr .neq 57 61] (zk 62 (yy 9 [zo 63 (.build z35 []),zs 35 8 63,yI 1] .ret) .skip)) (zq (yx 64 [yF 0 4,yL 1 64,yN 65,yF 0 5,yL 1 67,yN 68,yF 3 4,yF 11 70,yL 1 71,yN 72,zm 10 66,zm 11 69,zm 12 73] [[],[0],[1],[],[3],[4],[],[6],[7],[8],[2,0,1,2],[5,10,0,1,2,3,4,5,10],[9,11,0,1,2,3,4,5,6,7,8,9,10,11]]) (zq (yx 74 [yF 0 4,yL 1 74,yF 0 5,yL 1 76,yY 42 [75,77],yF 3 4,yF 11 79,yL 1 80,yY 42 [78,81],yo (.build z35 [(0,(1,(.tmp 82)))]),zK 13 z35,zs 35 13 83] [[],[0],[],[2],[1,3],[],[5],[6],[4,7,4],[8],[],[10,9,8,0,1,2,3,4,5,6,7,8,9,10]]) (yy 84 [yF 3 4,yT 14 84,ym 11,yC 43 [.tmp 85,.tmp 86,zi 0],zK 14 z14,zs 14 14 87] (yy 89 [yF 13 14,yL 1 89,ye 14 90 1,yT 14 91,ym 12,ym 2,yY 44 [92,93,94],zm 88 95,yX 88 0,yX 88 1,zK 15 z14,zs 14 15 96,zm 16 97] (zq (yy 98 [ym 16,yU 98,ym 99,yH 0 13 100 ff,yG 1 101 100 ff,yh 102 100 ff,yu .gtr 103 1000 100 ff,yO 100 104] (zk 105 (yy 9 [zo 106 (.build z35 []),zs 35 8 106,yI 6] .ret) .skip)) (yy 107 [yT 14 15,yF 3 13,zs 14 108 107] (zq (yy 109 [yF 2 4,yL 1 109,ym 110,yH 2 5 111 tt,yG 1 112 111 tt,yA 111 113,ym 114,yH 3 4 115 tt,yH 1 116 115 tt,yG 1 117 115 tt,yu .eql 118 1 115 tt,yA 115 119] (zk 120 (yy 121 [yF 2 13,ys 1 (.tmp 121) (zb tt)] (yy 122 [yF 1 4,yL 1 122,yF 1 5,yL 1 124,yY 45 [123,125],yF 1 13,zs 1 127 126] (yy 17 [ya] (zq (yy 18 [yI 0] (.block 0 (.loop (zq (yy 128 [ym 18,ym 2,yN 129,yS 128 130] (zk 131 .skip (.exit 0))) (zq (.block 1 (zq (yx 135 [ym 2,ym 18,yJ 6 135 136,yT 6 137,yF 1 13,yL 1 139,yY 46 [138,140],zm 134 141,yX 134 0,yX 134 1,zK 19 z6,zs 6 19 142,zm 20 143] [[],[],[0,1],[2],[],[4],[3,5],[6],[7],[7],[],[10,8,6,0,1,2,3,4,5,6,7,8,10],[9,11,0,1,2,3,4,5,6,7,8,9,10,11]]) (zq (yy 144 [ym 20,yU 144] (zk 145 (yy 9 [zo 146 (.build z35 []),zs 35 8 146,yI 6] .ret) .skip)) (yz 147 [ym 17,yT 6 19,yo (.buildSl 6 z6 1 [(0,(.tmp 148))]),yp 6 28 147 149,zm 17 150])))) (yz 132 [ym 18,yP 132 1,zm 18 133])))))) (zq (yx 151 [yF 17 4,yT 18 151,ym 17,yY 48 [152,153],yT 18 7,yF 1 13,yL 1 156,yY 50 [157],yY 49 [155,158],yF 17 5,yT 18 160,yY 47 [159,161],yY 47 [154,162],yF 17 13,zs 18 164 163] [[],[0],[],[1,2],[],[],[5],[6,3],[4,7,7],[],[9],[8,10,8],[3,11,11],[0,1,2,3,4,5,6,7,8,9,10,11,12],[13,12,12,0,1,2,3,4,5,6,7,8,9,10,11,12]]) (yy 165 [yT 35 13,yY 51 [165],yX 166 0,yX 166 1,zs 35 8 167,zm 9 168] .ret)))))) .skip)) (yy 170 [yT 35 4,yY 52 [170],zm 169 171,yX 169 0,yX 169 1,zK 21 z35,zs 35 21 172,zm 22 173] (yy 175 [yT 35 5,yY 52 [175],zm 174 176,yX 174 0,yX 174 1,zK 23 z35,zs 35 23 177,zm 24 178] (zq (yy 179 [ym 22,yn .neq 179 0,ym 180,yM 24 181 ff,yu .neq 182 0 181 ff,yO 181 183] (zk 184 (yy 185 [yo (.build z35 []),zs 35 8 185,zI 9 6] .ret) .skip)) (yy 186 [ym 10,yo (.max [zi 1,.tmp 186]),ym 11,yo (.max [zi 1,.tmp 188]),zm 25 187,zm 26 189] (zq (yx 190 [ym 26,yo (.build z18 [(0,(1,(zi 1))),(1,(1,(.tmp 190)))]),ym 2,yY 48 [191,192],yT 18 7,ym 25,ym 26,yr .add 195 196,yC 53 [.tmp 194,zi 0,.tmp 197],yo (.build z18 [(0,(1,(zi 1)))]),yY 47 [198,199],yY 47 [193,200],zK 27 z18,zs 18 27 201] [[],[0],[],[1,2],[],[],[],[5,6],[4,7,3],[],[8,9,8],[3,10,10],[],[12,11,11,0,1,2,3,4,5,6,7,8,9,10,11,12]]) (zq (yy 202 [yF 3 4,yF 1 202,yL 1 203,yE 204 0] (zk 205 (zq (yz 207 [yF 0 13,yL 1 207,yF 3 13,yT 14 209,yo (.build [.sl .nilT [],.int .i64 0,.int .i64 0,.str [],.int .i64 0,.int .i64 0,.str [],.sl .nilT [],.sl .nilT [],.sl .nilT [],.sl .nilT [],.sl .nilT [],.sl .nilT [],.sl .nilT [],.sl .nilT []] [(0,(1,(.tmp 208))),(1,(14,(.tmp 210)))]),yo (.build z18 [(0,(1,(zi 1)))]),yY 54 [211,212],zm 206 213,yX 206 0,yX 206 1,zK 28 z18,zs 18 28 214,zm 29 215]) (zq (yy 216 [ym 29,yU 216] (zk 217 (yy 9 [zo 218 (.build z35 []),zs 35 8 218,yI 6] .ret) .skip)) (yz 219 [ym 12,yT 18 27,yT 18 28,yY 55 [219,220,221],zs 18 27 222]))) (zq (yz 224 [yF 0 13,yL 1 224,yF 3 13,yT 14 226,yo (.build [.sl .nilT [],.int .i64 0,.int .i64 0,.str [],.int .i64 0,.int .i64 0,.str [],.sl .nilT [],.sl .nilT [],.sl .nilT [],.sl .nilT [],.sl .nilT [],.sl .nilT [],.sl .nilT [],.sl .nilT []] [(0,(1,(.tmp 225))),(1,(14,(.tmp 227)))]),yT 18 27,yY 54 [228,229],zm 223 230,yX 223 0,yX 223 1,zK 30 z18,zs 18 30 231,zm 31 232]) (zq (yy 233 [ym 31,yU 233] (zk 234 (yy 9 [zo 235 (.build z35 []),zs 35 8 235,yI 6] .ret) .skip)) (yz 236 [yT 18 30,zs 18 27 236]))))) (zq (yx 237 [ym 10,yF 17 21,yT 18 238,ym 11,yF 17 23,yT 18 241,ym 10,ym 25,yY 53 [242,243,244],yT 18 27,yY 55 [240,245,246],yY 55 [237,239,247],yF 17 13,zs 18 249 248] [[],[],[1],[],[],[4],[],[],[5,6,7],[],[3,8,9,8],[0,2,10,10],[0,1,2,3,4,5,6,7,8,9,10,11],[12,11,11,0,1,2,3,4,5,6,7,8,9,10,11]]) (yy 250 [yT 35 13,yY 51 [250],yX 251 0,yX 251 1,zs 35 8 252,zm 9 253] .ret)))))))))))))))))))
def V8:Fk 7 Ant 254 [.cell 8 true 35,.tmp 9]:=okF
def Akz:AC:=(yy 10 [zB 5 0,zB 7 2,yV ff] (zq (yy 11 [ym 3,yE 11 6] (zk 12 (yy 13 [ym 1,yE 13 6,ym 14,yM 1 15 ff,yu .eql 16 27 15 ff,yO 15 17,ym 18,yg 35 5 19 tt,yw (.build z35 []) 19 tt,yZ 56 [20,21] 19 tt,yA 19 22,ym 23,yH 17 5 24 tt,yH 0 25 24 tt,yG 1 26 24 tt,yu .eql 27 0 24 tt,yA 24 28,ym 29,yM 1 30 ff,yu .eql 31 0 30 ff,yM 32 30 ff,yg 35 5 33 tt,yZ 39 [34] 33 tt,yQ 33 35 30 ff,yO 30 36,zm 10 37] .ret) .skip)) (zq (yy 38 [ym 3,yn .neq 38 0] (zk 39 (yy 40 [ym 1,ym 3,yr .eql 40 41,ym 42,yg 35 5 43 tt,yw (.build z35 []) 43 tt,yZ 56 [44,45] 43 tt,yA 43 46,ym 47,yH 17 5 48 tt,yH 0 49 48 tt,yG 1 50 48 tt,yu .eql 51 0 48 tt,yA 48 52,zm 10 53] .ret) .skip)) (zq (yy 54 [ym 1,yn .neq 54 0] (zk 55 (yy 56 [ym 1,yE 56 6,ym 57,yM 4 58 tt,yj 59 58 tt,yA 58 60,ym 61,yg 35 5 62 tt,yw (.build z35 []) 62 tt,yZ 56 [63,64] 62 tt,yA 62 65,zm 10 66] .ret) .skip)) (yy 67 [yT 35 5,yY 39 [67],ym 68,yg 35 5 69 tt,yg 35 7 69 tt,yZ 56 [70,71] 69 tt,yA 69 72,zm 10 73] .ret)))))
def j4:Fk 8 Akz 74 [.tmp 10]:=okF
def Ak0:AC:=(yy 8 [zB 4 0,zB 6 2,yV ff] (yy 16 [yF 1 4,yT 14 16,yY 57 [17],zm 9 18] (zq (yy 19 [yF 0 6,yL 1 19,yn .neq 20 0] (zk 21 (yz 22 [ym 9,yT 18 6,yY 58 [23],yr .add 22 24,zm 9 25]) .skip)) (zq (yx 26 [yF 1 4,yT 14 26,yo (.buildSl 14 z14 1 [(0,(.tmp 27))]),ym 1,yY 59 [29],zm 10 28,zm 11 30] [[],[0],[1],[],[3],[2,4,0,1,2],[4,5,0,1,2,3,4,5]]) (zq (yy 31 [ym 1,yN 31,yI 0] (.block 0 (.loop (yy 34 [yS 33 32] (zq (zk 34 .skip (.exit 0)) (zq (.block 1 (yy 35 [yJ 6 31 33,yT 6 35,zK 13 z6,zs 6 13 36] (yz 37 [ym 9,yT 6 13,yY 60 [38],yr .add 37 39,zm 9 40]))) (yz 41 [yP 33 1,zm 33 41]))))))) (zq (yy 42 [ym 3,yN 42,yI 0] (.block 2 (.loop (yy 45 [yS 44 43] (zq (zk 45 .skip (.exit 2)) (zq (.block 3 (yy 46 [yJ 35 42 44,yT 35 46,zK 15 z35,zs 35 15 47] (yy 48 [ym 9,yT 35 15,yY 61 [49],yr .add 48 50,zm 9 51] (yx 52 [ym 10,yF 3 15,yT 14 53,yo (.buildSl 14 z14 1 [(0,(.tmp 54))]),yp 14 31 52 55,ym 11,yF 1 15,yL 1 58,yp 6 28 57 59,zm 10 56,zm 11 60] [[],[],[1],[2],[0,3],[],[],[6],[5,7,4],[4,8,0,1,2,3,4],[8,9,0,1,2,3,4,5,6,7,8,9]])))) (yz 44 [zP 61 44 1,ym 61]))))))) (yy 62 [ym 9,yn .leq 62 300,ym 63,yM 10 64 tt,yZ 62 [65] 64 tt,yA 64 66,ym 67,yM 11 68 tt,yZ 63 [69] 68 tt,yA 68 70,zm 8 71] .ret)))))))
def Bfb:Fk 9 Ak0 72 [.tmp 8]:=okF
def A5o:AC:=(yy 2 [yB 0,yB 1,yK z18,yI 0] (zq (yy 8 [yT 6 2,yY 64 [8],yU 9,ym 10,yg 1 3 11 ff,yZ 65 [12] 11 ff,yj 13 11 ff,yO 11 14] (zk 15 (yy 16 [yo (.build z18 []),zs 18 4 16,zI 5 1] .ret) .skip)) (yy 18 [yT 6 2,yY 66 [18],zm 17 19,yX 17 0,yX 17 1,zK 6 z6,zs 6 6 20,zm 7 21] (zq (yy 22 [ym 7,yn .neq 22 0] (zk 23 (yy 24 [yo (.build z18 []),ym 7,zs 18 4 24,zm 5 25] .ret) .skip)) (zq (yx 26 [yT 1 3,yY 68 [26],yT 6 6,yY 69 [28],yo (.buildSl 18 z18 1 [(0,(.tmp 29))]),yo (.build z18 [(0,(1,(zi 6))),(15,(1,(.tmp 27))),(17,(1,(.tmp 30)))]),yY 67 [31],yX 32 0,yX 32 1,zs 18 4 33,zm 5 34] [[],[0],[],[2,1],[3],[1,4],[5,3],[6],[6],[7,6,0,1,2,3,4,5,6,7,8],[8,9,0,1,2,3,4,5,6,7,8,9]]) .ret)))))
def Ajk:AC:=(yy 2 [yB 0,yB 1,ya,ya,yK z14,yI 0] (zq (.block 0 (yy 11 [yT 35 2,yY 22 [11],yU 12,ym 13,yG 1 3 14 ff,yZ 70 [15] 14 ff,yj 16 14 ff,yO 14 17,zm 10 18] (zk 10 (yy 4 [zo 19 (.build z14 []),ya,ya,zs 14 6 19,zI 7 1] .ret) (yy 21 [yF 2 2,yL 1 21,yU 22,zm 20 23] (zk 20 (yy 4 [zo 24 (.build z14 []),ya,ya,zs 14 6 24,zI 7 19] .ret) .skip))))) (yy 26 [yo (.mkfn (.func 71) [] [.tmp 2,.tmp 3]),yY 25 [26],zm 25 27,yX 25 0,yX 25 1,zK 8 z35,zs 35 8 28,zm 9 29] (zq (yx 30 [yF 0 8,yL 1 30,yF 1 8,yL 1 32,yF 3 8,yT 14 34,ym 9,zm 4 31,zm 5 33,zs 14 6 35,zm 7 36] [[],[0],[],[2],[],[4],[],[1,0,1],[3,7,0,1,2,3,7],[5,8,0,1,2,3,4,5,7,8],[6,9,0,1,2,3,4,5,6,7,8,9]]) .ret))))
def Bd3:Fk 11 Ajk 37 [.tmp 4,.tmp 5,.cell 6 true 14,.tmp 7]:=okF
def A5y:AC:=(yy 1 [yB 0,yo (.mov (.cst (.str []))),yI 0] (zq (yy 5 [yT 6 1,yY 64 [5],yU 6] (zk 7 (yy 2 [yo (.mov (.cst (.str []))),yI 1] .ret) .skip)) (zq (yz 8 [yo (.build [.nilp,.sl .nilT []] []),yo (.boxT 114 (.tmp 8)),zm 4 9]) (yy 10 [ym 4,yT 6 1,yY 73 [10,11]] (zq (yy 13 [ym 4,yd 13,yF 0 14,yY 74 [15],yn .gtr 16 16384] (zk 17 (yy 2 [yo (.mov (.cst (.str []))),yI 5] .ret) .skip)) (yy 18 [ym 4,yd 18,yF 0 19,yY 75 [20],zm 2 21,zI 3 0] .ret))))))
def A54:AC:=(yy 2 [yK z6] (zq (yy 3 [ym 0,yN 3,yE 4 0] (zk 5 (yy 6 [yo (.build z6 []),zs 6 2 6] .ret) .skip)) (yy 7 [ym 0,ye 6 7 0,yT 6 8,zs 6 2 9] .ret)))
def A53:AC:=(yy 1 [yB 0,yK z6] (zq (yy 3 [yF 13 1,yL 1 3,yN 4,yE 5 0] (zk 6 (yy 7 [yo (.build z6 []),zs 6 2 7] .ret) .skip)) (yy 8 [yF 13 1,yL 1 8,ye 14 9 0,yF 3 10,yT 6 11,zs 6 2 12] .ret)))
def Akp:AC:=(yy 3 [yB 1,yV ff] (yy 5 [ym 0,yN 5,yn .leq 6 20,ym 7,yM 0 8 tt,yw (.mkfn (.func 77) [] [.tmp 3]) 8 tt,yZ 76 [9,10] 8 tt,yj 11 8 tt,yA 8 12,zm 4 13] .ret))
def Be1:Fk 15 Akp 14 [.tmp 4]:=okF
def Akr:AC:=(yy 3 [yB 0,yB 1,yB 2,yV ff] (yy 7 [yL 1 4,yd 7,yL 1 8,yn .sub 9 1,yd 7,zs 1 11 10] (zq (zq (yz 12 [yL 1 4,yd 12,yL 1 13,yn .lss 14 0,ym 15,yG 1 5 16 ff,yu .gtr 17 60 16 ff,yO 16 18,ym 19,yH 2 3 20 ff,yG 1 21 20 ff,yw (.slen (.tmp 22)) 20 ff,yu .gtr 23 60 20 ff,yO 20 24,ym 25,yH 12 3 26 ff,yG 1 27 26 ff,yh 28 26 ff,yu .gtr 29 20 26 ff,yO 26 30,ym 31,yH 12 3 32 ff,yG 1 33 32 ff,yw (zc 79 [.tmp 34,.cst (.fn (.func 80) [] [])]) 32 ff,yO 32 35,ym 36,yH 3 3 37 ff,yg 6 38 37 ff,yG 1 4 37 ff,yD 81 [.tmp 39,.tmp 40,zi 0] 37 ff,yj 41 37 ff,yO 37 42,ym 43,yH 9 3 44 ff,yg 1 45 44 ff,yG 1 4 44 ff,yZ 78 [46,47] 44 ff,yj 48 44 ff,yO 44 49,ym 50,yH 10 3 51 ff,yG 1 52 51 ff,yG 1 4 51 ff,yZ 15 [53,54] 51 ff,yj 55 51 ff,yO 51 56,ym 57,yH 11 3 58 ff,yG 1 59 58 ff,yG 1 4 58 ff,yZ 15 [60,61] 58 ff,yj 62 58 ff,yO 58 63]) (zk 64 (yy 6 [yV ff] .ret) .skip)) (yy 65 [yF 13 3,yL 1 65,yo (.mkfn (.func 83) [] [.tmp 4,.tmp 5]),yY 82 [66,67],yU 68,zm 6 69] .ret))))
def Be3:Fk 16 Akr 70 [.tmp 6]:=okF
def Akl:AC:=(yy 3 [yB 1,yV ff] (yy 5 [ym 0,yN 5,yn .leq 6 20,ym 7,yM 0 8 tt,yw (.mkfn (.func 85) [] [.tmp 3]) 8 tt,yZ 84 [9,10] 8 tt,yj 11 8 tt,yA 8 12,zm 4 13] .ret))
def Bex:Fk 17 Akl 14 [.tmp 4]:=okF
def Aku:AC:=(yy 3 [yB 0,yB 1,yB 2,yV ff] (yy 7 [yL 1 4,yd 7,yL 1 8,yn .sub 9 1,yd 7,zs 1 11 10] (zq (zq (yz 12 [yL 1 4,yd 12,yL 1 13,yn .lss 14 0,ym 15,yG 1 5 16 ff,yu .gtr 17 60 16 ff,yO 16 18,ym 19,yH 2 3 20 ff,yG 1 21 20 ff,yw (.slen (.tmp 22)) 20 ff,yu .gtr 23 200 20 ff,yO 20 24,ym 25,yH 16 3 26 ff,yG 1 27 26 ff,yh 28 26 ff,yu .gtr 29 20 26 ff,yO 26 30,ym 31,yH 16 3 32 ff,yG 1 33 32 ff,yw (zc 79 [.tmp 34,.cst (.fn (.func 86) [] [])]) 32 ff,yO 32 35,ym 36,yH 3 3 37 ff,yg 6 38 37 ff,yG 1 4 37 ff,yD 81 [.tmp 39,.tmp 40,zi 0] 37 ff,yj 41 37 ff,yO 37 42,ym 43,yH 9 3 44 ff,yg 6 45 44 ff,yG 1 4 44 ff,yD 81 [.tmp 46,.tmp 47,zi 0] 44 ff,yj 48 44 ff,yO 44 49,ym 50,yH 15 3 51 ff,yg 1 52 51 ff,yG 1 4 51 ff,yZ 78 [53,54] 51 ff,yj 55 51 ff,yO 51 56]) (zk 57 (yy 6 [yV ff] .ret) .skip)) (yy 58 [yF 17 3,yL 1 58,yo (.mkfn (.func 88) [] [.tmp 4,.tmp 5]),yY 87 [59,60],yU 61,zm 6 62] .ret))))
def Be6:Fk 18 Aku 63 [.tmp 6]:=okF
def Ao5:AC:=(yy 4 [yV ff] (yy 5 [ym 0,ym 1,yY 89 [5,6],yn .geq 7 0,zm 4 8] .ret))
def Bir:Fk 19 Ao5 9 [.tmp 4]:=okF
def Aky:AC:=(yy 2 [yB 0,yV ff] (yy 4 [yT 35 2,yY 21 [4,1],yU 5,zm 3 6] .ret))
def Bfa:Fk 20 Aky 7 [.tmp 3]:=okF
def Akh:AC:=(yy 2 [yB 0,zV 4 ff] (yy 5 [yF 0 2,yL 1 5,ym 1,yY 15 [6,7],ym 8,yH 1 2 9 tt,yG 1 10 9 tt,yM 1 9 tt,yZ 17 [11,12] 9 tt,yA 9 13,ym 14,yH 3 2 15 tt,yg 14 16 15 tt,yM 1 15 tt,yD 16 [.tmp 17,.tmp 18,zi 0] 15 tt,yA 15 19,ym 20,yH 17 2 21 tt,yg 18 22 21 tt,yM 1 21 tt,yD 18 [.tmp 23,.tmp 24,zi 0] 21 tt,yA 21 25,zm 4 26] .ret))
def Bet:Fk 21 Akh 27 [.tmp 4]:=okF
def Ajr:AC:=(yy 1 [yB 0,yV ff] (zq (yy 3 [yF 0 1,yL 1 3,yY 70 [4],yU 5,ym 6,yH 3 1 7 ff,yg 14 8 7 ff,yZ 90 [9] 7 ff,yu .eql 10 0 7 ff,yO 7 11,ym 12,yH 17 1 13 ff,yg 18 14 13 ff,yZ 24 [15] 13 ff,yj 16 13 ff,yO 13 17,ym 18,yH 1 1 19 ff,yG 1 20 19 ff,yZ 23 [21] 19 ff,yj 22 19 ff,yO 19 23] (zk 24 (yy 2 [yV ff] .ret) .skip)) (yy 25 [yF 2 1,yL 1 25,ym 26,yH 1 1 27 tt,yG 1 28 27 tt,yh 29 27 tt,yH 0 1 27 tt,yG 1 31 27 tt,yh 32 27 tt,yv .eql 30 33 27 tt,yA 27 34,ym 35,yH 2 1 36 ff,yG 1 37 36 ff,yj 38 36 ff,yM 39 36 ff,yH 1 1 40 tt,yG 1 41 40 tt,yh 42 40 tt,yu .eql 43 0 40 tt,yQ 40 44 36 ff,yO 36 45,zm 2 46] .ret)))
def Zh:Fk 22 Ajr 47 [.tmp 2]:=okF
def Ajo:AC:=(yy 2 [yV ff] (zq (yz 3 [ym 0,yo (zc 84 [.tmp 3,.cst (.fn (.func 91) [] [])]),yU 4,zm 2 5]) .ret))
def Bd4:Fk 23 Ajo 6 [.tmp 2]:=okF
def Apt:AC:=(yy 1 [yB 0,yV ff] (yy 6 [yT 18 1,yC 92 [.tmp 6,zi 20000,zi 1],zm 5 7,yX 5 0,yX 5 1,zm 3 8,zm 4 9] (yy 10 [ym 4,zm 2 10] .ret)))
def Bjc:Fk 24 Apt 11 [.tmp 2]:=okF
def fu:AC:=(yy 2 [yK z35,yo (.alloc [.int .i64 0])] (.seq .bad (yy 5 [ym 0,yo (.call (.tmp 5) []),zs 35 2 6] (zq (yy 7 [yT 35 2,yY 22 [7],yU 8] (zk 9 (yy 10 [yo (.build z35 []),zs 35 2 10,ys 1 (.tmp 3) (zi 6)] .ret) .skip)) (yy 11 [yT 35 2,zs 35 2 11,ys 1 (.tmp 3) (zi 0)] .ret)))))
def Ajj:AC:=(yy 4 [yK z35] (zq (yx 15 [yF 0 0,yL 1 15,yN 16,yF 0 1,yL 1 18,yN 19,yF 3 0,yF 11 21,yL 1 22,yN 23,zm 5 17,zm 6 20,zm 7 24] [[],[0],[1],[],[3],[4],[],[6],[7],[8],[2,0,1,2],[5,10,0,1,2,3,4,5,10],[9,11,0,1,2,3,4,5,6,7,8,9,10,11]]) (yy 25 [yF 0 0,yL 1 25,yF 0 1,yL 1 27,yF 3 0,yF 11 29,yL 1 30,yo (.buildSl 1 z1 3 [(0,(.tmp 26)),(1,(.tmp 28)),(2,(.tmp 31))]),yY 27 [32],yo (.build z35 [(0,(1,(.tmp 33)))]),zK 8 z35,zs 35 8 34] (zq (yx 35 [yF 3 0,yT 14 35,ym 6,yC 29 [.tmp 36,.tmp 37,zi 0],yo (.fld ff 13 1 (.tmp 38)),ye 14 39 1,yT 14 40,yF 3 0,yF 11 42,yL 1 43,yL 1 2,yY 28 [41,44,45],yF 3 8,zs 14 47 46] [[],[0],[],[1,2],[3],[4],[5],[],[7],[8],[],[6,9,10,3],[0,1,2,3,4,5,6,7,8,9,10,11],[12,11,11,0,1,2,3,4,5,6,7,8,9,10,11]]) (zq (yy 48 [yF 2 0,yL 1 48,ym 49,yH 2 1 50 tt,yG 1 51 50 tt,yA 50 52,ym 53,yH 3 0 54 tt,yH 1 55 54 tt,yG 1 56 54 tt,yu .eql 57 1 54 tt,yA 54 58] (zk 59 (yy 60 [yF 1 0,yL 1 60,yF 1 1,yL 1 62,yo (.buildSl 1 z1 2 [(0,(.tmp 61)),(1,(.tmp 63))]),yY 30 [64],yF 2 8,ys 1 (.tmp 66) (zb tt),yF 1 8,zs 1 67 65] (yy 9 [ya] (zq (yy 68 [yL 1 2,yN 68,yI 0] (.block 0 (.loop (yy 71 [yS 70 69] (zq (zk 71 .skip (.exit 0)) (zq (.block 1 (yy 72 [yJ 6 68 70,yT 6 72,zK 11 z6,zs 6 11 73] (yz 74 [ym 9,yT 6 11,yF 1 8,yL 1 76,yY 31 [75,77],yo (.buildSl 6 z6 1 [(0,(.tmp 78))]),yp 6 28 74 79,zm 9 80]))) (yz 81 [yP 70 1,zm 70 81]))))))) (zq (yx 82 [yF 17 0,yT 18 82,ym 9,yT 18 3,yF 1 8,yL 1 86,yY 34 [85,87],yF 17 1,yT 18 89,yo (.buildSl 18 z18 2 [(0,(.tmp 88)),(1,(.tmp 90))]),yC 33 [zi 5,zi 0,.tmp 91],yY 32 [83,84,92],yF 17 8,zs 18 94 93] [[],[0],[],[],[],[4],[3,5],[],[7],[6,8],[9,6],[1,2,10,10],[0,1,2,3,4,5,6,7,8,9,10,11],[12,11,11,0,1,2,3,4,5,6,7,8,9,10,11]]) (yy 95 [yT 35 8,zs 35 4 95] .ret))))) .skip)) (yy 96 [ym 5,yo (.max [zi 1,.tmp 96]),ym 6,yo (.max [zi 1,.tmp 98]),zm 12 97,zm 13 99] (zq (yx 100 [ym 13,yo (zc 33 [zi 1,.tmp 100,.cst (.sl .nilT [])]),yL 1 2,yT 18 3,ym 12,ym 13,yr .add 104 105,yC 35 [.tmp 103,zi 0,.tmp 106],yo (zc 33 [zi 1,zi 0,.cst (.sl .nilT [])]),yo (.buildSl 18 z18 2 [(0,(.tmp 107)),(1,(.tmp 108))]),yC 33 [zi 5,zi 0,.tmp 109],yY 32 [101,102,110],zK 14 z18,zs 18 14 111] [[],[0],[],[],[],[],[4,5],[3,6,1],[7],[7,8],[9,8],[1,2,10,10],[],[12,11,11,0,1,2,3,4,5,6,7,8,9,10,11,12]]) (zq (yy 112 [yF 3 0,yF 1 112,yL 1 113,yE 114 1] (zk 115 (yz 116 [yF 0 8,yL 1 116,yF 3 8,yT 14 118,yT 18 14,yY 36 [117,119,120],zs 18 14 121]) (yx 122 [ym 7,yT 18 14,yF 0 8,yL 1 124,yF 3 8,yT 14 126,yo (zc 33 [zi 1,zi 0,.cst (.sl .nilT [])]),yY 36 [125,127,128],yY 37 [122,123,129],zs 18 14 130] [[],[],[],[2],[],[4],[],[3,5,6,6],[0,1,7,7],[8,8,0,1,2,3,4,5,6,7,8]]))) (zq (yx 131 [ym 5,yT 35 0,yY 38 [132],yo (.fld tt 17 18 (.tmp 133)),ym 6,yT 35 1,yY 38 [136],yo (.fld tt 17 18 (.tmp 137)),ym 5,ym 12,yY 35 [138,139,140],yT 18 14,yY 37 [135,141,142],yY 37 [131,134,143],yF 17 8,zs 18 145 144] [[],[],[1],[2],[],[],[5,2],[6],[],[],[7,8,9,6],[],[4,10,11,10],[0,3,12,12],[0,1,2,3,4,5,6,7,8,9,10,11,12,13],[14,13,13,0,1,2,3,4,5,6,7,8,9,10,11,12,13]]) (yy 146 [yT 35 8,zs 35 4 146] .ret))))))))))
def Awr:Fk 26 Ajj 147 [.cell 4 true 35]:=okF
def Ao3:AC:=(yy 2 [ya] (yy 3 [yI 0] (zq (yy 9 [ym 0,yN 9,yI 0] (.block 0 (.loop (yy 12 [yS 11 10] (zq (zk 12 .skip (.exit 0)) (zq (.block 1 (yy 13 [yJ 1 9 11,yL 1 13,zm 5 14] (yy 15 [ym 3,ym 5,yN 16,yr .add 15 17,zm 3 18] (yy 19 [ym 3,yn .lss 19 0] (zk 20 .bad .skip))))) (yz 11 [zP 22 11 1,ym 22]))))))) (zq (yz 23 [ym 3,yo (zc 94 [.cst (.sl .nilT []),.tmp 23]),zm 6 24]) (zq (yy 25 [ym 0,yN 25,yI 0] (.block 2 (.loop (yy 28 [yS 27 26] (zq (zk 28 .skip (.exit 2)) (zq (.block 3 (yy 29 [yJ 1 25 27,yL 1 29,zm 8 30] (yz 31 [ym 6,ym 8,yp 1 25 31 32,zm 6 33]))) (yz 34 [yP 27 1,zm 27 34]))))))) (yy 2 [zm 35 6,ym 35] .ret))))))
def Biq:Fk 27 Ao3 36 [.tmp 2]:=okF
def Aj0:AC:=(yy 3 [yB 0,zK 6 z14] (zq (yx 10 [ym 1,yT 14 3,yo (.buildSl 14 z14 1 [(0,(.tmp 11))]),yo (.build z14 [(0,(1,(zi 4))),(10,(1,(.tmp 10))),(13,(1,(.tmp 12)))]),ym 2,yY 96 [14],yY 95 [13,15],zm 9 16,yX 9 0,yX 9 1,zK 7 z14,zs 14 7 17,zm 8 18] [[],[],[1],[0,2],[],[4],[3,5,5],[6],[7],[7],[],[10,8,6,0,1,2,3,4,5,6,7,8,10],[9,11,0,1,2,3,4,5,6,7,8,9,10,11]]) (yy 19 [ym 8,yY 97 [19]] (yy 22 [yT 14 7,yY 98 [22],zm 21 23,yX 21 0,yX 21 1,zs 14 7 24,zm 8 25] (yy 26 [ym 8,yY 97 [26]] (yy 28 [yF 13 7,yL 1 28,ye 14 29 0,yT 14 30,zs 14 6 31] .ret))))))
def n8:Fk 28 Aj0 32 [.cell 6 true 14]:=okF
def Aj1:AC:=(yy 3 [yB 0,zK 6 z14] (yy 10 [yT 14 3,ym 1,ym 2,yY 99 [10,11,12],zm 9 13,yX 9 0,yX 9 1,zK 7 z14,zs 14 7 14,zm 8 15] (yy 16 [ym 8,yY 97 [16]] (yy 18 [yT 14 7,zs 14 6 18] .ret))))
def Awu:Fk 29 Aj1 19 [.cell 6 true 14]:=okF
def Ao2:AC:=(yy 2 [ya] (yy 3 [yI 0] (zq (yy 9 [ym 0,yN 9,yI 0] (.block 0 (.loop (yy 12 [yS 11 10] (zq (zk 12 .skip (.exit 0)) (zq (.block 1 (yy 13 [yJ 1 9 11,yL 1 13,zm 5 14] (yy 15 [ym 3,ym 5,yN 16,yr .add 15 17,zm 3 18] (yy 19 [ym 3,yn .lss 19 0] (zk 20 .bad .skip))))) (yz 11 [zP 22 11 1,ym 22]))))))) (zq (yz 23 [ym 3,yo (zc 100 [.cst (.sl .nilT []),.tmp 23]),zm 6 24]) (zq (yy 25 [ym 0,yN 25,yI 0] (.block 2 (.loop (yy 28 [yS 27 26] (zq (zk 28 .skip (.exit 2)) (zq (.block 3 (yy 29 [yJ 1 25 27,yL 1 29,zm 8 30] (yz 31 [ym 6,ym 8,yp 6 28 31 32,zm 6 33]))) (yz 34 [yP 27 1,zm 27 34]))))))) (yy 2 [zm 35 6,ym 35] .ret))))))
def Bip:Fk 30 Ao2 36 [.tmp 2]:=okF
def Ajn:AC:=(yy 2 [yB 0,zK 4 z6] (zq (yx 8 [yT 6 2,ym 1,yY 96 [9],yY 101 [8,10],zm 7 11,yX 7 0,yX 7 1,zK 5 z6,zs 6 5 12,zm 6 13] [[],[],[1],[0,2,2],[3],[4],[4],[],[7,5,3,0,1,2,3,4,5,7],[6,8,0,1,2,3,4,5,6,7,8]]) (yy 14 [ym 6,yY 97 [14]] (yy 17 [yT 6 5,yY 102 [17],zm 16 18,yX 16 0,yX 16 1,zs 6 5 19,zm 6 20] (yy 21 [ym 6,yY 97 [21]] (yy 23 [yT 6 5,zs 6 4 23] .ret))))))
def Ady:Fk 31 Ajn 24 [.cell 4 true 6]:=okF
def Ajl:AC:=(yy 5 [zB 3 0,yB 2,yK z18] (zq (yy 9 [ym 1,yN 9,yI 0] (.block 0 (.loop (yy 12 [yS 11 10] (zq (zk 12 .skip (.exit 0)) (zq (.block 1 (yy 13 [yJ 6 9 11,yT 6 13,zK 8 z6,zs 6 8 14] (yz 15 [yT 6 8,yT 18 3,yo (.buildSl 18 z18 1 [(0,(.tmp 16))]),yo (.build z18 [(0,(1,(zi 7))),(3,(6,(.tmp 15))),(17,(1,(.tmp 17)))]),zs 18 3 18]))) (yz 11 [zP 19 11 1,ym 19]))))))) (yy 20 [yT 18 3,yT 18 5,yo (.buildSl 18 z18 2 [(0,(.tmp 20)),(1,(.tmp 21))]),yC 33 [zi 5,zi 0,.tmp 22],zs 18 6 23] .ret)))
def Adx:Fk 32 Ajl 24 [.cell 6 true 18]:=okF
def Ajx:AC:=(yy 6 [yK z18] (yy 7 [ym 0,ym 1,ym 2,yo (.build z18 [(0,(1,(.tmp 7))),(1,(1,(.tmp 8))),(17,(1,(.tmp 9)))]),zs 18 6 10] .ret))
def Ad0:Fk 33 Ajx 11 [.cell 6 true 18]:=okF
def Ajq:AC:=(yy 2 [yB 0,zK 4 z18] (zq (yx 8 [yT 18 2,ym 1,yY 96 [9],yY 103 [8,10],zm 7 11,yX 7 0,yX 7 1,zK 5 z18,zs 18 5 12,zm 6 13] [[],[],[1],[0,2,2],[3],[4],[4],[],[7,5,3,0,1,2,3,4,5,7],[6,8,0,1,2,3,4,5,6,7,8]]) (yy 14 [ym 6,yY 97 [14]] (yy 16 [yT 18 5,zs 18 4 16] .ret))))
def Aws:Fk 34 Ajq 17 [.cell 4 true 18]:=okF
attribute [simp] Akf Akg Akx Aji Ant Akz Ak0 A5o Ajk A5y A54 A53 Akp Akr Akl Aku Ao5 Aky Akh Ajr Ajo Apt fu Ajj Ao3 Aj0 Aj1 Ao2 Ajn Ajl Ajx Ajq
end Go.Proofs.YtndkeknbfbdeeaaGreatDoor
namespace Go.Proofs
open Go.Shelf
def Tryz.lays35_ren:Go.Shelf.Ren:=⟨fun |35=>160|n=>n,fun |22=>23|23=>28|n=>n,fun |n=>n⟩
def Tryz.lays35:Go.Proofs.SlLaysE0.n35 Tryz.prog Tryz.lays35_ren:={
 mixed:=by kernel_rfl
 f35:=⟨Tryz.f160.name,by decide,Tryz.func160.trans (congrArg some (by kernel_rfl))⟩
 t0:=Tryz.underlying0
 a0:=Tryz.isAgg0
 z0:=Tryz.sizeOf0
 v0:=Tryz.zeroValue0
 t3:=Tryz.underlying3
 a3:=Tryz.isAgg3
 z3:=Tryz.sizeOf3
 v3:=Tryz.zeroValue3
 t4:=Tryz.underlying4
 a4:=Tryz.isAgg4
 z4:=Tryz.sizeOf4
 v4:=Tryz.zeroValue4
 t22:=Tryz.underlying23
 a22:=Tryz.isAgg23
 z22:=Tryz.sizeOf23
 v22:=Tryz.zeroValue23}
def Tryz.lays41_ren:Go.Shelf.Ren:=⟨fun |41=>59|n=>n,fun |22=>23|23=>28|n=>n,fun |n=>n⟩
def Tryz.lays41:Go.Proofs.SlLaysE0.n41 Tryz.prog Tryz.lays41_ren:={
 mixed:=by kernel_rfl
 f41:=⟨Tryz.f59.name,by decide,Tryz.func59.trans (congrArg some (by kernel_rfl))⟩
 t4:=Tryz.underlying4
 a4:=Tryz.isAgg4
 z4:=Tryz.sizeOf4
 v4:=Tryz.zeroValue4
 t22:=Tryz.underlying23
 a22:=Tryz.isAgg23
 z22:=Tryz.sizeOf23
 v22:=Tryz.zeroValue23}
end Go.Proofs
