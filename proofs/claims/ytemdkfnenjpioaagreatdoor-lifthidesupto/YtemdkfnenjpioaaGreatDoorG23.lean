/- Joined: T1 T2 T3 T4 T5 T6 T7 T8. -/
import Derived.Test.YtemdkfnenjpioaaGreatDoorG21
set_option linter.unusedSimpArgs false
set_option linter.unusedVariables false
set_option linter.unusedSectionVars false
set_option linter.all false
set_option maxHeartbeats 4000000
set_option maxRecDepth 10000
namespace Go.Proofs.YtemdkfnenjpioaaGreatDoor
open Go
attribute [local simp] Ar aev Ax A7 start AV.cells AV.undef Bc Be Bh Bl Bj AV.isCell Bf A1 Bi
attribute [local simp] fin A9 A8 Bb AV.strip Ay A5 AV.inScope Am A0 As
attribute [local simp] Ca Cg
attribute [-simp] Int.not_lt Int.not_le
def hcT (op:Int):Bool:=op == 4 || (op == 7 || (op == 8 || (op == 12 || (op == 14 || (op == 16 || op == 19)))))
theorem U0 (op:Int):Ab Tryz.prog L6 [.int .i64 op] [] (.bool (hcT op)) []:=by
 refine Ab.go mixed Ak4 (by simp) fun hfit Q hQ=>?_
 clear hfit
 simp -implicitDefEqProofs[Abt]
 repeat' (first | (refine Cl (fun hb=>?_) (fun hb=>?_)<;>(try simp only[Bool.not_eq_true',Bool.not_eq_true,Bool.not_eq_false,Bool.not_eq_false',Bool.not_true,Bool.not_false,decide_eq_true_eq,decide_eq_false_iff_not,decide_not,Decidable.not_not] at hb)<;>simp -implicitDefEqProofs[hb,hcT]) | (refine Dp (fun hb=>?_) (fun hb=>?_)<;>(try simp only[Bool.not_eq_true',Bool.not_eq_true,Bool.not_eq_false,Bool.not_eq_false',Bool.not_true,Bool.not_false,decide_eq_true_eq,decide_eq_false_iff_not,decide_not,Decidable.not_not] at hb)<;>simp -implicitDefEqProofs[hb,hcT]))
 all_goals (refine hQ _ _ _ ?_;simp -implicitDefEqProofs[*,hcT])
def arT (n:Int):Int:=if n=6∨n=11∨n=13∨n=14 then 1 else 2
theorem A12 (n:Int):Ab Tryz.prog Rr [.int .i64 n] [] (.int .i64 (arT n)) []:=by
 refine Ab.go mixed Ahh (by simp) fun hfit Q hQ=>?_
 clear hfit
 simp -implicitDefEqProofs[Aaa]
 repeat' (first | (refine Cl (fun hb=>?_) (fun hb=>?_)<;>(try simp only[Bool.not_eq_true',Bool.not_eq_true,Bool.not_eq_false,Bool.not_eq_false',Bool.not_true,Bool.not_false,decide_eq_true_eq,decide_eq_false_iff_not,decide_not,Decidable.not_not] at hb)<;>simp -implicitDefEqProofs[hb,arT]) | (refine Dp (fun hb=>?_) (fun hb=>?_)<;>(try simp only[Bool.not_eq_true',Bool.not_eq_true,Bool.not_eq_false,Bool.not_eq_false',Bool.not_true,Bool.not_false,decide_eq_true_eq,decide_eq_false_iff_not,decide_not,Decidable.not_not] at hb)<;>simp -implicitDefEqProofs[hb,arT]))
 all_goals (refine hQ _ _ _ ?_;simp -implicitDefEqProofs[*,arT])
def Qs (t:Te):Bool:=if t.op=1 then decide (0≤t.n) && decide (t.n≤20000) else if t.op=2 then decide (-4503599627370496≤t.n) && decide (t.n≤4503599627370496) else if t.op=18 then decide (1≤t.n) && decide (t.n≤14) else
 if t.op=19 then decide (1≤t.n) && decide (t.n≤1000000) else decide (t.n=0)
theorem Axd (t:Te):Ab Tryz.prog Ru [Ae t] [] (.bool (Qs t)) []:=by
 refine Ab.go mixed Aoc (by simp) fun hfit Q hQ=>?_
 clear hfit
 simp -implicitDefEqProofs[Acp,Ae,Aj t]
 repeat' (first | (refine Cl (fun hb=>?_) (fun hb=>?_)<;>(try simp only[Bool.not_eq_true',Bool.not_eq_true,Bool.not_eq_false,Bool.not_eq_false',Bool.not_true,Bool.not_false,decide_eq_true_eq,decide_eq_false_iff_not,decide_not,Decidable.not_not] at hb)<;>simp -implicitDefEqProofs[hb]) | (refine Dp (fun hb=>?_) (fun hb=>?_)<;>(try simp only[Bool.not_eq_true',Bool.not_eq_true,Bool.not_eq_false,Bool.not_eq_false',Bool.not_true,Bool.not_false,decide_eq_true_eq,decide_eq_false_iff_not,decide_not,Decidable.not_not] at hb)<;>simp -implicitDefEqProofs[hb]))
 all_goals (refine hQ _ _ _ ?_;simp -implicitDefEqProofs[Qs, *])
def ptT (t:Te):Int:=if t.op=1∨t.op=2∨t.op=3∨t.op=19 then 0 else if t.op=4∨t.op=6∨t.op=7∨t.op=8∨t.op=11∨t.op=12∨t.op=14∨t.op=15∨t.op=16 then 1 else if t.op=5∨t.op=9∨t.op=17 then 2 else
 if t.op=10 then t.names.length else if t.op=13 then IntKind.i64.wrap (t.names.length+1) else if t.op=18 then arT t.n else -1
theorem At1 (t:Te):Ab Tryz.prog Sw [Ae t] [] (.int .i64 (ptT t)) []:=by
 refine Ab.go mixed Ag3 (by simp) fun hfit Q hQ=>?_
 clear hfit
 simp -implicitDefEqProofs[Aco,Ae,Aj t]
 repeat' (first | (refine Cl (fun hb=>?_) (fun hb=>?_)<;>(try simp only[Bool.not_eq_true',Bool.not_eq_true,Bool.not_eq_false,Bool.not_eq_false',Bool.not_true,Bool.not_false,decide_eq_true_eq,decide_eq_false_iff_not,decide_not,Decidable.not_not] at hb)<;>simp -implicitDefEqProofs[hb,Af]) | (refine Dp (fun hb=>?_) (fun hb=>?_)<;>(try simp only[Bool.not_eq_true',Bool.not_eq_true,Bool.not_eq_false,Bool.not_eq_false',Bool.not_true,Bool.not_false,decide_eq_true_eq,decide_eq_false_iff_not,decide_not,Decidable.not_not] at hb)<;>simp -implicitDefEqProofs[hb,Af]) | (refine Ah (A12 t.n) (by simp) (by simp) (by simp[Ag,Aa,Ac,Al,Af,Kd.l,Ae,Aj, *]) ?_;simp -implicitDefEqProofs[Af]))
 all_goals (refine hQ _ _ _ ?_;simp -implicitDefEqProofs[ptT, *])
def txT (t:Te):Bool:=if t.op=3 then decide (t.s.length≤16384) else if t.op=11∨t.op=12 then Ez t.s else decide (t.s=[])
theorem Azm (t:Te):Ab Tryz.prog Ty [Ae t] [] (.bool (txT t)) []:=by
 refine Ab.go mixed Alx (by simp) fun hfit Q hQ=>?_
 clear hfit
 simp -implicitDefEqProofs[Yw,Ae,Aj t]
 by_cases h3:t.op=3
 · have e:decide ((t.s.length:Int)≤16384)=decide (t.s.length≤16384):=by congr 1;simp;omega
   simp -implicitDefEqProofs[h3]
   refine hQ _ _ _ ?_
   simp -implicitDefEqProofs[txT,h3,e]
 by_cases h11:t.op=11
 · simp -implicitDefEqProofs[h3,h11]
   refine Ah (Ua t.s) (by simp) (by simp) (by simp[Ag,Aa,Ac,Al,Af,Kd.l,Ae,Aj]) ?_
   simp -implicitDefEqProofs 
   refine hQ _ _ _ ?_
   simp -implicitDefEqProofs[txT,h3,h11]
 by_cases h12:t.op=12
 · simp -implicitDefEqProofs[h3,h11,h12]
   refine Ah (Ua t.s) (by simp) (by simp) (by simp[Ag,Aa,Ac,Al,Af,Kd.l,Ae,Aj]) ?_
   simp -implicitDefEqProofs 
   refine hQ _ _ _ ?_
   simp -implicitDefEqProofs[txT,h3,h11,h12]
 simp -implicitDefEqProofs[h3,h11,h12]
 refine hQ _ _ _ ?_
 simp -implicitDefEqProofs[txT,h3,h11,h12]
theorem A22 (s:List UInt8):Ab Tryz.prog Mh [.str s] [] (.bool !Ez s) []:=by
 refine Ab.go mixed Aqo (by simp) fun hfit Q hQ=>?_
 clear hfit
 simp -implicitDefEqProofs[Z3]
 refine Ah (Ua s) (by simp) (by simp) (by simp[Ag,Aa,Ac,Al,Af,Kd.l,Ae,Aj]) ?_
 simp -implicitDefEqProofs 
 refine hQ _ _ _ ?_
 simp -implicitDefEqProofs 
def nmT (t:Te):Bool:=if t.op≠10∧t.op≠13 then decide (t.names.length=0) else if (t.op=13∧t.names.length=0)∨1000 < t.names.length then false else asc t.names && t.names.all Ez
theorem At7 (t:Te):Ab Tryz.prog Rs [Ae t] [] (.bool (nmT t)) []:=by
 have hany:Ab Tryz.prog Jk [.sl .none (Af t.names),.fn (.func Mh) [] []] [] (.bool !t.names.all Ez) []:=by
  have:=Tq t.names (fun s=>!Ez s) Mh fun x _=>A22 x
  rw[Hg] at this
  exact this
 have hl:(Af t.names).length=t.names.length:=by simp[Af]
 have key:nmT t=if t.op≠10∧t.op≠13 then decide (t.names.length=0) else if (t.op=13∧t.names.length=0)∨1000 < t.names.length then false else asc t.names && t.names.all Ez:=rfl
 have hz:((t.names.length:Int)=0)↔t.names.length=0:=by omega
 refine Ab.go mixed Afk (by simp) fun hfit Q hQ=>?_
 clear hfit
 simp -implicitDefEqProofs[Aes,Ae,Aj t,hl]
 by_cases h10:t.op=10
 · rw[if_neg (by simp[h10])] at key
   by_cases hm:1000 < t.names.length
   · rw[if_pos (.inr hm)] at key
     have hm':(1000:Int) < t.names.length:=by omega
     simp -implicitDefEqProofs[h10,hm',hl]
     refine hQ _ _ _ ?_
     simp -implicitDefEqProofs[key]
   rw[if_neg (by simp[h10,hm])] at key
   have hm': ¬(1000:Int) < t.names.length:=by omega
   simp -implicitDefEqProofs[h10,hm',hl]
   refine Ah (W2 t.names) (by simp) (by simp) (by simp[Ag,Aa,Ac,Al,Af,Kd.l,Ae,Aj]) ?_
   cases ha:asc t.names
   · simp -implicitDefEqProofs[ha]
     refine hQ _ _ _ ?_
     simp -implicitDefEqProofs[key,ha]
   · simp -implicitDefEqProofs[ha]
     refine Ah (hany) (by simp) (by simp) (by simp[Ag,Aa,Ac,Al,Af,Kd.l,Ae,Aj]) ?_
     simp -implicitDefEqProofs 
     refine hQ _ _ _ ?_
     simp -implicitDefEqProofs[key,ha]
 by_cases h13:t.op=13
 · rw[if_neg (by simp[h13])] at key
   by_cases h0:t.names.length=0
   · rw[if_pos (.inl ⟨h13,h0⟩)] at key
     have h0':(t.names.length:Int)=0:=by omega
     simp -implicitDefEqProofs[h10,h13,h0',h0,hl]
     refine hQ _ _ _ ?_
     simp -implicitDefEqProofs[key]
   have h0': ¬(t.names.length:Int)=0:=by omega
   by_cases hm:1000 < t.names.length
   · rw[if_pos (.inr hm)] at key
     have hm':(1000:Int) < t.names.length:=by omega
     simp -implicitDefEqProofs[h10,h13,h0',h0,hm',hl]
     refine hQ _ _ _ ?_
     simp -implicitDefEqProofs[key]
   rw[if_neg (by simp[h13,hm,h0])] at key
   have hm': ¬(1000:Int) < t.names.length:=by omega
   have h0n: ¬t.names=[]:=fun h=>h0 (by simp[h])
   simp -implicitDefEqProofs[h10,h13,h0',h0,h0n,hm',hl]
   refine Ah (W2 t.names) (by simp) (by simp) (by simp[Ag,Aa,Ac,Al,Af,Kd.l,Ae,Aj]) ?_
   cases ha:asc t.names
   · simp -implicitDefEqProofs[ha]
     refine hQ _ _ _ ?_
     simp -implicitDefEqProofs[key,ha]
   · simp -implicitDefEqProofs[ha]
     refine Ah (hany) (by simp) (by simp) (by simp[Ag,Aa,Ac,Al,Af,Kd.l,Ae,Aj]) ?_
     simp -implicitDefEqProofs 
     refine hQ _ _ _ ?_
     simp -implicitDefEqProofs[key,ha]
 · rw[if_pos ⟨h10,h13⟩] at key
   simp -implicitDefEqProofs[h10,h13,hl]
   refine hQ _ _ _ ?_
   simp -implicitDefEqProofs[key,hz]
theorem Au6 (c:Cn):Ab Tryz.prog Rq [Aa c] [] (.bool (C5 c Az)) []:=by
 have h:=Y8 c Az
 generalize C5 c Az=b at h ⊢
 refine Ab.go mixed Age (by simp) fun hfit Q hQ=>?_
 clear hfit
 simp -implicitDefEqProofs[Aac,Aa]
 refine Ah h (by simp) (by simp) (by simp[Aa,Cu]) ?_
 simp -implicitDefEqProofs 
 refine hQ _ _ _ ?_
 simp -implicitDefEqProofs 
def Im (c:Cn) (there:Bool):Bool:=if there=true then A6 c else C5 c Az
theorem Af3 (c:Cn) (b:Bool) (hc:Ap c≤1000000000000):Ab Tryz.prog O7 [Aa c,.bool b] [] (.bool (Im c b)) []:=by
 cases b
 · have h:=Au6 c
   have key:Im c false=C5 c Az:=rfl
   rw[key]
   generalize C5 c Az=q at h
   refine Ab.go mixed Y1 (by simp) fun hfit Q hQ=>?_
   clear hfit
   simp -implicitDefEqProofs[Wj,Aa]
   refine Ah h (by simp) (by simp) (by simp[Aa]) ?_
   simp -implicitDefEqProofs 
   refine hQ _ _ _ ?_
   simp -implicitDefEqProofs 
 · have key:Im c true=A6 c:=rfl
   rw[key]
   refine Ab.go mixed Y1 (by simp) fun hfit Q hQ=>?_
   clear hfit
   simp -implicitDefEqProofs[Wj,Aa]
   refine Ah (D5 c hc) (by simp) (by simp) (by simp[Ag,Aa,Ac,Al,Af,Kd.l,Ae,Aj]) ?_
   simp -implicitDefEqProofs 
   refine hQ _ _ _ ?_
   simp -implicitDefEqProofs 
def Ph (t:Te):Bool:=!(decide (t.op < 1) || (decide (19 < t.op) || (!Qs t || (!decide ((t.l.length:Int)=ptT t) || (!txT t || !nmT t)))))
def Rp (t:Te):Bool:=(decide (t.op=6) && Ee t.k) || decide (t.k.l.length=0)
def E6 (t:Te):Bool:=Ph t && (Rp t && (Im t.con (hcT t.op) && Im t.to (decide (t.op=8))))
theorem Apq (t:Te) (hc:Ap t.con≤1000000000000) (hd:Ap t.to≤1000000000000):Ab Tryz.prog Rz [Ae t] [] (.bool (E6 t)) []:=by
 have hnum:=Axd t
 have hpt:=At1 t
 have htx:=Azm t
 have hnm:=At7 t
 have hf1:=Af3 t.con (hcT t.op) hc
 have hf2:=Af3 t.to (decide (t.op=8)) hd
 have key:E6 t=(Ph t && (Rp t && (Im t.con (hcT t.op) && Im t.to (decide (t.op=8))))):=rfl
 have key1:Ph t= !(decide (t.op < 1) || (decide (19 < t.op) || (!Qs t || (!decide ((t.l.length:Int)=ptT t) || (!txT t || !nmT t))))):=rfl
 have key2:Rp t=((decide (t.op=6) && Ee t.k) || decide (t.k.l.length=0)):=rfl
 generalize Qs t=bn at hnum key1
 generalize ptT t=pt at hpt key1
 generalize txT t=bx at htx key1
 generalize nmT t=bm at hnm key1
 generalize Im t.con (hcT t.op)=f1 at hf1 key
 generalize Im t.to (decide (t.op=8))=f2 at hf2 key
 generalize E6 t=z at key
 refine Ab.go mixed Aox (by simp) fun hfit Q hQ=>?_
 clear hfit
 simp -implicitDefEqProofs[-A3,Ac6,Ae,Aj t]
 rw[A3]
 simp -implicitDefEqProofs[-A3]
 refine E2 (fun f=>Ph t=true) (fun Q' hn hr=>?_) (fun f hI=>?_)
 · rw[A3]
   refine C3 (by rfl) ?_
   by_cases h1:t.op < 1
   · simp -implicitDefEqProofs[h1]
     refine hr _ _ ?_
     simp -implicitDefEqProofs
     refine hQ _ _ _ ?_
     simp -implicitDefEqProofs[key,key1,h1]
   by_cases h2:19 < t.op
   · simp -implicitDefEqProofs[h1,h2]
     refine hr _ _ ?_
     simp -implicitDefEqProofs
     refine hQ _ _ _ ?_
     simp -implicitDefEqProofs[key,key1,h1,h2]
   simp -implicitDefEqProofs[h1,h2]
   refine Bp hnum (by simp) (by simp) (by simp[Ae,Aj t]) ?_
   cases bn
   · simp -implicitDefEqProofs 
     refine hr _ _ ?_
     simp -implicitDefEqProofs
     refine hQ _ _ _ ?_
     simp -implicitDefEqProofs[key,key1,h1,h2]
   simp -implicitDefEqProofs 
   refine Bp hpt (by simp) (by simp) (by simp[Ae,Aj t]) ?_
   by_cases h3:(t.l.length:Int)=pt
   case neg=>
    simp -implicitDefEqProofs[h3]
    refine hr _ _ ?_
    simp -implicitDefEqProofs
    refine hQ _ _ _ ?_
    simp -implicitDefEqProofs[key,key1,h1,h2,h3]
   simp -implicitDefEqProofs[h3]
   refine Bp htx (by simp) (by simp) (by simp[Ae,Aj t]) ?_
   cases bx
   · simp -implicitDefEqProofs 
     refine hr _ _ ?_
     simp -implicitDefEqProofs
     refine hQ _ _ _ ?_
     simp -implicitDefEqProofs[key,key1,h1,h2,h3]
   simp -implicitDefEqProofs 
   refine Bp hnm (by simp) (by simp) (by simp[Ae,Aj t]) ?_
   cases bm
   · simp -implicitDefEqProofs 
     refine hr _ _ ?_
     simp -implicitDefEqProofs
     refine hQ _ _ _ ?_
     simp -implicitDefEqProofs[key,key1,h1,h2,h3]
   simp -implicitDefEqProofs 
   refine hn _ (by simp -implicitDefEqProofs[AC.dsts,Au,At,Aq]) ?_
   rw[key1]; simp[h1,h2,h3]
 rw[hI] at key
 simp only[Bool.true_and] at key
 clear hI key1 hnum hpt htx hnm
 simp -implicitDefEqProofs[-A3,AC.dsts,Au,At]
 refine E2 (fun f=>f 3= .bool (Rp t)) (fun Q' hn hr=>?_) (fun f hI=>?_)
 · have hkv:=Nm t.k
   generalize Ee t.k=kv at hkv key2
   have hk0:decide ((t.k.l.length:Int)=0)=decide (t.k.l.length=0):=by simp only[decide_eq_decide]; omega
   have hk1:decide (t.k.l=[])=decide (t.k.l.length=0):=by simp
   cases h6:decide (t.op=6)
   · simp -implicitDefEqProofs[h6]
     refine hn _ (by simp -implicitDefEqProofs[AC.dsts,Au,At,Aq]) ?_
     simp[Aq,key2,h6,hk1]
   · simp -implicitDefEqProofs[h6]
     refine Ah hkv (by simp) (by simp) (by simp[Ag,Al t.k]) ?_
     cases kv
     · simp -implicitDefEqProofs 
       refine hn _ (by simp -implicitDefEqProofs[AC.dsts,Au,At,Aq]) ?_
       simp[Aq,key2,h6,hk1]
     · simp -implicitDefEqProofs 
       refine hn _ (by simp -implicitDefEqProofs[AC.dsts,Au,At,Aq]) ?_
       simp[Aq,key2,h6,hk1]
 clear key2
 generalize Rp t=n2 at key hI
 simp -implicitDefEqProofs[-A3,AC.dsts,Au,At,hI]
 rw[A3]
 refine C3 (by rfl) ?_
 cases n2
 · simp -implicitDefEqProofs 
   refine hQ _ _ _ ?_
   simp -implicitDefEqProofs[key]
 simp -implicitDefEqProofs 
 refine Bp (U0 t.op) (by simp) (by simp) (by simp) ?_
 simp -implicitDefEqProofs 
 refine Bp hf1 (by simp) (by simp) (by simp[Aa,Ac t.con]) ?_
 cases f1
 · simp -implicitDefEqProofs 
   refine hQ _ _ _ ?_
   simp -implicitDefEqProofs[key]
 simp -implicitDefEqProofs 
 refine Bp hf2 (by simp) (by simp) (by simp[Aa,Ac t.to]) ?_
 simp -implicitDefEqProofs 
 refine hQ _ _ _ ?_
 simp -implicitDefEqProofs[key]
def teB:Te→Prop
 | .mk _ _ _ c d _ _ l=>Ap c≤1000000000000∧Ap d≤1000000000000∧∀x ∈ l,teB x
theorem J1 (t:Te):teB t↔Ap t.con≤1000000000000∧Ap t.to≤1000000000000∧∀x ∈ t.l,teB x:=by
 cases t;rw[teB]; rfl
def tOk:Nat→Te→Prop
 | 0,_=>False
 | h+1,t=>E6 t=true∧∀x ∈ t.l,tOk h x
def tAV (p:Int × Bool):AV:=.tup [.int .i64 p.1,.bool p.2]
theorem Tw {t:Te} (h:E6 t=true):(hcT t.op=true→A6 t.con=true)∧(t.op=8→A6 t.to=true)∧(t.op=1→0≤t.n∧t.n≤20000):=by
 simp only[E6,Bool.and_eq_true] at h
 obtain⟨h1,_,h3,h4⟩:=h
 refine⟨fun ho=>?_,fun ho=>?_,fun ho=>?_⟩
 · rw[ho] at h3;exact h3
 · rw[ho] at h4;exact h4
 · simp only[Ph,Bool.not_eq_true',Bool.or_eq_false_iff,Bool.not_eq_false'] at h1
   have:=h1.2.2.1
   simp only[Qs,ho,if_true,Bool.and_eq_true,decide_eq_true_eq] at this
   exact this
theorem Y4 {t:Te} (h:E6 t=true) (ho:hcT t.op=true):Ap t.con≤20000:=by
 have:=(Tw h).1 ho
 simp only[A6,Bool.and_eq_true,decide_eq_true_eq] at this;exact this.1
theorem Xs {t:Te} (h:E6 t=true) (ho:t.op=8):Ap t.to≤20000:=by
 have:=(Tw h).2.1 ho
 simp only[A6,Bool.and_eq_true,decide_eq_true_eq] at this;exact this.1
inductive MsL:List Te→Int→Int→Int→Option Int→Prop
 | nil (left d n):MsL [] left d n (some n)
 | bad {t l left d n} (p:Int × Bool) (h:Ab Tryz.prog Il [Ae t,.int .i64 (left - n),.int .i64 (d+1)] [] (tAV p) []) (hp:p.2=false):MsL (t :: l) left d n none
 | good {t l left d n r} (p:Int × Bool) (h:Ab Tryz.prog Il [Ae t,.int .i64 (left - n),.int .i64 (d+1)] [] (tAV p) []) (hp:p.2=true) (h0:0≤p.1) (h1:p.1≤left - n) (hl:MsL l left d (n+p.1) r):MsL (t :: l) left d n r
def n0T (t:Te):Int:=1+(if hcT t.op=true then (Ap t.con:Int) else 0)+(if t.op=8 then (Ap t.to:Int) else 0)
theorem Auy (t:Te) (left d:Int) (hb:teB t) (h:left≤0∨400 < d∨E6 t=false):Ab Tryz.prog Il [Ae t,.int .i64 left,.int .i64 d] [] (tAV (0,false)) []:=by
 have hb':=(J1 t).1 hb
 have hnd:=Apq t hb'.1 hb'.2.1
 generalize E6 t=nd at hnd h
 refine Ab.go mixed Abe (by simp) fun hfit Q hQ=>?_
 clear hfit
 by_cases h1:left≤0
 · simp -implicitDefEqProofs[N9,Ae,Aj t,h1]
   refine hQ _ _ _ ?_
   simp -implicitDefEqProofs[tAV]
 by_cases h2:400 < d
 · simp -implicitDefEqProofs[N9,Ae,Aj t,h1,h2]
   refine hQ _ _ _ ?_
   simp -implicitDefEqProofs[tAV]
 · have h3:nd=false:=by
    rcases h with h | h | h
    · exact absurd h h1
    · exact absurd h h2
    · exact h
   subst h3
   simp -implicitDefEqProofs[N9,Ae,Aj t,h1,h2]
   refine Ah hnd (by simp) (by simp) (by simp[Ae,Aj t]) ?_
   simp -implicitDefEqProofs 
   refine hQ _ _ _ ?_
   simp -implicitDefEqProofs[tAV]
def msR (left:Int):Option Int→Int × Bool
 | none=>(0,false)
 | some n=>(n,decide (n≤left))
set_option maxHeartbeats 1000000 in
theorem A0c (t:Te) (left d:Int) (hb:teB t) (h1:0 < left) (h1b:left≤20000) (h2:0≤d) (h2b:d≤400) (h3:E6 t=true) (r:Option Int) (hr:MsL t.l left d (n0T t) r):
 Ab Tryz.prog Il [Ae t,.int .i64 left,.int .i64 d] [] (tAV (msR left r)) []:=by
 have hb':=(J1 t).1 hb
 have hnd:=Apq t hb'.1 hb'.2.1
 rw[h3] at hnd
 have a1: ¬left≤0:=by omega
 have a2: ¬400 < d:=by omega
 have hs1:=fun h=>Y4 h3 h
 have hs2:=fun h=>Xs h3 h
 have n0eq:n0T t=1+(if hcT t.op=true then (Ap t.con:Int) else 0)+(if t.op=8 then (Ap t.to:Int) else 0):=rfl
 obtain⟨n0,hn0⟩: ∃n0,n0=n0T t:=⟨_,rfl⟩
 rw[← hn0] at hr n0eq
 have hn0b:1≤n0∧n0≤40001:=by
  rw[n0eq]
  split
  · rename_i h;have:=hs1 h
    split
    · rename_i h;have:=hs2 h;omega
    · omega
  · split
    · rename_i h;have:=hs2 h;omega
    · omega
 refine Ab.go mixed Abe (by simp) fun hfit Q hQ=>?_
 have hf:=W7 (c:=t) (by simpa[Bn,Ae,AV.fits] using hfit.1)
 have hln:t.l.length≤1073741824:=by simpa[A4] using hf.2.2.2.2.1
 clear hfit hf
 simp -implicitDefEqProofs[-A3,N9,Ae,Aj t]
 rw[A3]
 simp -implicitDefEqProofs[-A3]
 rw[A3,A3]
 simp -implicitDefEqProofs[a1,a2, -A3]
 refine Ah hnd (by simp) (by simp) (by simp[Ae,Aj t]) ?_
 clear hnd
 simp -implicitDefEqProofs[-A3]
 rw[A3]
 simp -implicitDefEqProofs[-A3]
 refine E2 (fun f=>f 8= .int .i64 (1+(if hcT t.op=true then (Ap t.con:Int) else 0))) (fun Q' hn hr=>?_) (fun f hI=>?_)
 · simp -implicitDefEqProofs 
   refine Ah (U0 t.op) (by simp) (by simp) (by simp[Ag,Aa,Ac,Al,Af,Kd.l,Ae,Aj]) ?_
   cases hh:hcT t.op
   · simp -implicitDefEqProofs 
     refine hn _ (by simp -implicitDefEqProofs[AC.dsts,Au,At,Aq]) ?_
     simp[Aq,hh]
   · have:=hs1 hh
     simp -implicitDefEqProofs 
     refine Ah (Oo t.con (by omega)) (by simp) (by simp) (by simp[Aa,Ac t.con]) ?_
     simp -implicitDefEqProofs[Ba (n:=1+(Ap t.con:Int)) (by omega) (by omega)]
     refine hn _ (by simp -implicitDefEqProofs[AC.dsts,Au,At,Aq]) ?_
     simp[Aq,hh]
 obtain⟨m1,hm1⟩: ∃m1:Int,m1=1+(if hcT t.op=true then (Ap t.con:Int) else 0):=⟨_,rfl⟩
 rw[← hm1] at hI n0eq
 have e1: ¬t.op=8→m1=n0:=fun h=>by rw[n0eq,if_neg h]; omega
 have e2:t.op=8→m1+(Ap t.to:Int)=n0:=fun h=>by rw[n0eq,if_pos h]
 clear n0eq hm1
 simp -implicitDefEqProofs[-A3,AC.dsts,Au,At,hI]
 refine E2 (fun f=>f 8= .int .i64 n0) (fun Q' hn hr=>?_) (fun f hI=>?_)
 · cases hh:decide (t.op=8)
   · have hh': ¬t.op=8:=by simpa using hh
     simp -implicitDefEqProofs[hh]
     refine hn _ (by simp -implicitDefEqProofs[AC.dsts,Au,At,Aq]) ?_
     simp[Aq,e1 hh']
   · have hh':t.op=8:=by simpa using hh
     have:=hs2 hh'
     have e3:=e2 hh'
     simp -implicitDefEqProofs[hh]
     refine Ah (Oo t.to (by omega)) (by simp) (by simp) (by simp[Aa,Ac t.to]) ?_
     simp -implicitDefEqProofs[Ba (n:=m1+(Ap t.to:Int)) (by omega) (by omega)]
     refine hn _ (by simp -implicitDefEqProofs[AC.dsts,Au,At,Aq]) ?_
     simp[Aq,e3]
 clear hs1 hs2
 simp -implicitDefEqProofs[AC.dsts,Au,At,hI]
 refine B5 (AWp.loopI [] (fun n f h G=>∃(k:Nat) (m:Int),k+n=t.l.length∧f 43= .int .i64 k∧f 8= .int .i64 m∧1≤m∧m≤40001∧MsL (t.l.drop k) left d m r) (t.l.length) (by simp) ⟨0,n0,by simp,rfl,rfl,hn0b.1,hn0b.2,by simpa using hr⟩ ?_)
 rintro n f h G ⟨k,m,hk,h43,h8,hm1,hm2,hM⟩
 refine AWp.run mixed fun Q2 hQ2=>?_
 simp -implicitDefEqProofs[AC.dsts,Au,At,Bo,h43,h8]
 by_cases hlt:k < t.l.length
 · have hd:=List.drop_eq_getElem_cons hlt
   rw[hd] at hM
   have hw1:=Ba (n:=left - m) (by omega) (by omega)
   have hw2:=Ba (n:=d+1) (by omega) (by omega)
   simp -implicitDefEqProofs[hlt,hw1,hw2]
   cases hM with
   | bad p h1 hp=>
     obtain⟨q,b⟩:=p
     simp only at hp
     subst hp
     refine Ah h1 (by simp) (by simp[tAV]) (by simp[Ae]) ?_
     simp -implicitDefEqProofs[tAV]
     refine hQ2 _ _ _ (Dg ?_)
     show KR _ _ Q _ _
     simp -implicitDefEqProofs 
     refine hQ _ _ _ ?_
     simp -implicitDefEqProofs[tAV,msR]
   | good p h1 hp h0 hle hl=>
     obtain⟨q,b⟩:=p
     simp only at hp h0 hle hl
     subst hp
     refine Ah h1 (by simp) (by simp[tAV]) (by simp[Ae]) ?_
     simp -implicitDefEqProofs[tAV,Ba (n:=m+q) (by omega) (by omega),Ba (n:=(k:Int)+1) (by omega) (by omega)]
     refine hQ2 _ _ _ (Cb (n - 1) (h) rfl (by omega) (by simp -implicitDefEqProofs[AC.dsts,Au,At,Aq]) ?_)
     exact⟨k+1,m+q,by omega,by simp[Aq],by simp[Aq],by omega,by omega,hl⟩
 · have hd:t.l.drop k=[]:=List.drop_eq_nil_of_le (by omega)
   rw[hd] at hM
   cases hM
   simp -implicitDefEqProofs[hlt]
   refine hQ2 _ _ _ (Ce ?_)
   show KE _ 0 _ Q _ _
   simp -implicitDefEqProofs 
   refine hQ _ _ _ ?_
   simp -implicitDefEqProofs[tAV,msR]
theorem MsL_of (h:Nat): ∀(l:List Te) (left d n:Int),(∀ t ∈ l,∀left d:Int, -100000≤left→left≤20000→0≤d→d≤1000→∃p,Ab Tryz.prog Il [Ae t,.int .i64 left,.int .i64 d] [] (tAV p) []∧(p.2=true→1≤p.1∧p.1≤left∧tOk (401 - d).toNat t))→
 1≤n→n≤40001→0≤left→left≤20000→0≤d→d≤400→∃r,MsL l left d n r∧∀m,r=some m→n≤m∧∀x ∈ l,tOk (400 - d).toNat x
 | [],left,d,n,_,_,_,_,_,_,_=>⟨some n,.nil _ _ _,fun m hm=>by cases hm;exact⟨Int.le_refl _,by simp⟩⟩
 | t :: l,left,d,n,hl,h1,h2,h3,h4,h5,h6=>by
   obtain⟨p,hp,hp2⟩:=hl t (by simp) (left - n) (d+1) (by omega) (by omega) (by omega) (by omega)
   cases hb:p.2
   · exact⟨none,.bad p hp hb,fun m hm=>by cases hm⟩
   · obtain⟨g1,g2,g3⟩:=hp2 hb
     obtain⟨r,q1,q2⟩:=MsL_of h l left d (n+p.1) (fun x hx=>hl x (by simp[hx])) (by omega) (by omega) h3 h4 h5 h6
     refine⟨r,.good p hp hb (by omega) g2 q1,fun m hm=>?_⟩
     obtain⟨e1,e2⟩:=q2 m hm
     refine⟨by omega,fun x hx=>?_⟩
     rcases List.mem_cons.1 hx with rfl | hx
     · rw[show (400 - d).toNat=(401 - (d+1)).toNat by omega]; exact g3
     · exact e2 x hx
theorem Aj4 (t:Te) (hb:teB t) (left d:Int) (h1: -100000≤left) (h2:left≤20000) (h3:0≤d) (h4:d≤1000):
 ∃p,Ab Tryz.prog Il [Ae t,.int .i64 left,.int .i64 d] [] (tAV p) []∧(p.2=true→1≤p.1∧p.1≤left∧tOk (401 - d).toNat t):=by
 have hb':=(J1 t).1 hb
 by_cases hf:left≤0∨400 < d∨E6 t=false
 · exact⟨(0,false),Auy t left d hb hf,by simp⟩
 simp only[not_or] at hf
 obtain⟨f1,f2,f3⟩:=hf
 have f3:E6 t=true:=by simpa using f3
 have hn0b:1≤n0T t∧n0T t≤40001:=by
  unfold n0T
  split
  · rename_i h;have:=Y4 f3 h
    split
    · rename_i h;have:=Xs f3 h;omega
    · omega
  · split
    · rename_i h;have:=Xs f3 h;omega
    · omega
 obtain⟨r,hr,hr2⟩:=MsL_of 0 t.l left d (n0T t) (fun x hx l' d' g1 g2 g3 g4=>Aj4 x (hb'.2.2 x hx) l' d' g1 g2 g3 g4) hn0b.1 hn0b.2 (by omega) h2 h3 (by omega)
 refine⟨msR left r,A0c t left d hb (by omega) h2 h3 (by omega) f3 r hr,fun h=>?_⟩
 cases r with
 | none=>cases h
 | some m=>
   obtain⟨e1,e2⟩:=hr2 m rfl
   simp only[msR,decide_eq_true_eq] at h ⊢
   refine⟨by omega,h,?_⟩
   rw[show (401 - d).toNat=(400 - d).toNat+1 by omega]
   exact⟨f3,e2⟩
termination_by SizeOf.sizeOf t
decreasing_by exact Te.lt_l ‹_›
theorem Sn (t:Te) (hb:teB t): ∃b,Ab Tryz.prog Gi [Ae t] [] (.bool b) []∧(b=true→tOk 400 t):=by
 obtain⟨⟨n,b⟩,hp,hp2⟩:=Aj4 t hb 20000 1 (by omega) (by omega) (by omega) (by omega)
 refine⟨b,?_,fun h=>(hp2 h).2.2⟩
 refine Ab.go mixed Anl (by simp) fun hfit Q hQ=>?_
 clear hfit
 simp -implicitDefEqProofs[Acw,Ae]
 refine Ah hp (by simp) (by simp[tAV]) (by simp[Ae]) ?_
 simp -implicitDefEqProofs[tAV]
 refine hQ _ _ _ ?_
 simp -implicitDefEqProofs 
def uAV (c t:Int):AV:=.agg [.int .i64 c,.int .i64 t]
theorem Amf (c t:Int) (n:Nat):(uAV c t).inScope n=true:=by simp[uAV]
def w1 (n:Int):Int:=IntKind.i64.wrap n
def C9 (op part c t:Int):Int × Int:=if op=6 then (w1 (c+1),t) else if op=4∨op=16 then (c,w1 (t+1)) else if op=17 then (c,w1 (t+(if 1 < part then 1 else part))) else
 if op=9 then (w1 (c+part),w1 (t+part)) else if op=13 then (c,w1 (t+(if 1 < part then 1 else part))) else (c,t)
theorem Aop (x:Te) (part c t:Int):Ab Tryz.prog Wn [uAV c t,Ae x,.int .i64 part] [] (uAV (C9 x.op part c t).1 (C9 x.op part c t).2) []:=by
 refine Ab.go mixed A10 (by simp) fun hfit Q hQ=>?_
 clear hfit
 have hm: ∀p:Int,(if 1 < p then (1:Int) else p)=if p≤1 then p else 1:=fun p=>by split<;>split<;>omega
 by_cases h6:x.op=6
 · simp -implicitDefEqProofs[L2,uAV,Ae,Aj x,h6]
   refine hQ _ _ _ ?_
   simp -implicitDefEqProofs[C9,uAV,h6,w1]
 by_cases h4:x.op=4
 · simp -implicitDefEqProofs[L2,uAV,Ae,Aj x,h6,h4]
   refine hQ _ _ _ ?_
   simp -implicitDefEqProofs[C9,uAV,h6,h4,w1]
 by_cases h16:x.op=16
 · simp -implicitDefEqProofs[L2,uAV,Ae,Aj x,h6,h4,h16]
   refine hQ _ _ _ ?_
   simp -implicitDefEqProofs[C9,uAV,h6,h4,h16,w1]
 by_cases h17:x.op=17
 · simp -implicitDefEqProofs[L2,uAV,Ae,Aj x,h6,h4,h16,h17,Qp,L3]
   refine hQ _ _ _ ?_
   simp -implicitDefEqProofs[C9,uAV,h6,h4,h16,h17,w1]
 by_cases h9:x.op=9
 · simp -implicitDefEqProofs[L2,uAV,Ae,Aj x,h6,h4,h16,h17,h9]
   refine hQ _ _ _ ?_
   simp -implicitDefEqProofs[C9,uAV,h6,h4,h16,h17,h9,w1]
 by_cases h13:x.op=13
 · simp -implicitDefEqProofs[L2,uAV,Ae,Aj x,h6,h4,h16,h17,h9,h13,Qp,L3]
   refine hQ _ _ _ ?_
   simp -implicitDefEqProofs[C9,uAV,h6,h4,h16,h17,h9,h13,w1]
 · simp -implicitDefEqProofs[L2,uAV,Ae,Aj x,h6,h4,h16,h17,h9,h13]
   refine hQ _ _ _ ?_
   simp -implicitDefEqProofs[C9,uAV,h6,h4,h16,h17,h9,h13]
def Bv:Te:=.mk 0 0 [] Az Az (.mk []) [] []
def teE (p:Te × Int):AV:=.tup [Ae p.1,.int .i64 p.2]
theorem Ex (p:Te × Int) (n:Nat):(teE p).inScope n=true:=by simp[teE,AV.inScope,Am]
theorem Tc (o n:Int) (s:List UInt8) (c d:Cn) (k:Kd) (names:List (List UInt8)) (l:List Te):Bm (.mk o n s c d k names l)=[.int .i64 o,.int .i64 n,.str s,.int .i64 c.op,.int .i64 c.n,.str c.s,.sl .none (c.k.l.map Ao),.sl .none (Af c.names),.sl .none (c.l.map Ai),
 .int .i64 d.op,.int .i64 d.n,.str d.s,.sl .none (d.k.l.map Ao),.sl .none (Af d.names),.sl .none (d.l.map Ai),.sl .none (k.l.map Ao),.sl .none (Af names),.sl .none (l.map Bm)]:=by rw[Aj]; rfl
theorem D9:Bm Bv=[.int .i64 0,.int .i64 0,.str [],.int .i64 0,.int .i64 0,.str [],.sl .none [],.sl .none [],.sl .none [],.int .i64 0,.int .i64 0,.str [],.sl .none [],.sl .none [],.sl .none [],.sl .none [],.sl .none [],.sl .none []]:=by
 rw[Bv,Tc]; rfl
mutual
def chT (f:Cn→Int→Int→Cn × Int) (g:Int→Int→Int→Te × Int):Te→Int→Int→Te × Int
 | .mk op n s con tto k ns l,c,t=>if op=1 then g n c t else
   if hcT op=true∧(f con c t).2≠0 then (Bv,(f con c t).2) else
   if op=8∧(f tto c t).2≠0 then (Bv,(f tto c t).2) else
   if (Ey f g op l 0 c t).2≠0 then (Bv,(Ey f g op l 0 c t).2) else
   (.mk op n s (if hcT op=true then (f con c t).1 else Az) (if op=8 then (f tto c t).1 else Az) k ns (Ey f g op l 0 c t).1,0)
def Ey (f:Cn→Int→Int→Cn × Int) (g:Int→Int→Int→Te × Int) (op:Int):List Te→Nat→Int→Int→List Te × Int
 | [],_,_,_=>([],0)
 | x :: xs,i,c,t=>if (chT f g x (C9 op i c t).1 (C9 op i c t).2).2≠0 then ([],(chT f g x (C9 op i c t).1 (C9 op i c t).2).2) else
   ((chT f g x (C9 op i c t).1 (C9 op i c t).2).1 :: (Ey f g op xs (i+1) c t).1,(Ey f g op xs (i+1) c t).2)
end
theorem chT_eq (f:Cn→Int→Int→Cn × Int) (g:Int→Int→Int→Te × Int) (x:Te) (c t:Int):chT f g x c t=if x.op=1 then g x.n c t else
 if hcT x.op=true∧(f x.con c t).2≠0 then (Bv,(f x.con c t).2) else
 if x.op=8∧(f x.to c t).2≠0 then (Bv,(f x.to c t).2) else
 if (Ey f g x.op x.l 0 c t).2≠0 then (Bv,(Ey f g x.op x.l 0 c t).2) else
 (.mk x.op x.n x.s (if hcT x.op=true then (f x.con c t).1 else Az) (if x.op=8 then (f x.to c t).1 else Az) x.k x.names (Ey f g x.op x.l 0 c t).1,0):=by
 cases x;rw[chT]; rfl
theorem Zd {h:Nat} {x:Te} (ht:tOk (h+1) x) {i:Nat} (hi:i < x.l.length) {c t:Int} (h0:0≤c) (h1:0≤t) (h2:c≤10000) (h3:t≤10000):0≤(C9 x.op i c t).1∧(C9 x.op i c t).1≤c+1∧0≤(C9 x.op i c t).2∧(C9 x.op i c t).2≤t+1:=by
 have hl:x.op=9→x.l.length=2:=fun h9=>by
  have hn:=ht.1
  simp only[E6,Bool.and_eq_true] at hn
  have h1:=hn.1
  simp only[Ph,Bool.not_eq_true',Bool.or_eq_false_iff,Bool.not_eq_false',decide_eq_true_eq] at h1
  have:=h1.2.2.2.1
  simp[ptT,h9] at this
  omega
 have hm:(if (1:Int) < i then (1:Int) else i)=0∨(if (1:Int) < i then (1:Int) else i)=1:=by
  by_cases h:i=0
  · left;subst h;simp
  · right;split
    · rfl
    · omega
 unfold C9 w1
 split
 · simp only;rw[Ba (by omega) (by omega)]; omega
 · split
   · simp only;rw[Ba (by omega) (by omega)]; omega
   · split
     · simp only
       rcases hm with e | e<;>rw[e,Ba (by omega) (by omega)]<;>omega
     · split
       · rename_i h9
         have:=hl h9
         simp only;rw[Ba (by omega) (by omega),Ba (by omega) (by omega)]; omega
       · split
         · simp only
           rcases hm with e | e<;>rw[e,Ba (by omega) (by omega)]<;>omega
         · simp only;omega
end Go.Proofs.YtemdkfnenjpioaaGreatDoor
namespace Go.Proofs.YtemdkfnenjpioaaGreatDoor
open Go
attribute [local simp] Ar aev Ax A7 start AV.cells AV.undef Bc Be Bh Bl Bj AV.isCell Bf A1 Bi
attribute [local simp] fin A9 A8 Bb AV.strip Ay A5 AV.inScope Am A0 As
attribute [local simp] Ca Cg
attribute [-simp] Int.not_lt Int.not_le
structure Chg (m1 m2:Nat) (p1 p2:List AV) (A:List HB) (f:Cn→Int→Int→Cn × Int) (g:Int→Int→Int→Te × Int):Prop where
 con: ∀(c:Cn) (a b:Int),A6 c=true→0≤a→0≤b→a≤1000→b≤1000→Ab Tryz.prog m1 ([Aa c,uAV a b]++p1) A (cnE (f c a b)) A
 var: ∀(n a b:Int),0≤n→n≤20000→0≤a→0≤b→a≤1000→b≤1000→Ab Tryz.prog m2 ([.int .i64 n,uAV a b]++p2) A (teE (g n a b)) A
 vars: ∀b,b < A.length→∃cs,A[b]? =some (.var cs)
 sc: ∀n,A.length≤n→As n A=true
 c1: ∀n,A.length≤n→Am n p1=true
 c2: ∀n,A.length≤n→Am n p2=true
def Ie (m1 m2:Nat) (p1 p2:List AV):AV:=.agg [.fn (.func m1) [] p1,.fn (.func m2) [] p2]
theorem An9 {a1 a2 a3 a4 a5 a6:AV} {c:Cn} (h:Ay [a1,a2,a3,a4,a5,a6]=Ai c):a1.strip= .int .i64 c.op∧a2.strip= .int .i64 c.n∧a3.strip= .str c.s∧a4.strip= .sl .none (c.k.l.map Ao)∧a5.strip= .sl .none (Af c.names)∧a6.strip= .sl .none (c.l.map Ai):=by
 rw[Ac] at h
 simpa[Ay] using h
def C6.zero:C6:=⟨.int .i64 0,.int .i64 0,.str [],.sl .nilT [],.sl .nilT [],.sl .nilT []⟩
def C6.of (c:Cn):C6:=⟨.int .i64 c.op,.int .i64 c.n,.str c.s,.sl .none (c.k.l.map Ao),.sl .none (Af c.names),.sl .none (c.l.map Ai)⟩
set_option maxHeartbeats 400000 in
theorem Ark (m1 m2:Nat) (p1 p2:List AV) (A:List HB) (f:Cn→Int→Int→Cn × Int) (g:Int→Int→Int→Te × Int) (hC:Chg m1 m2 p1 p2 A f g)
 (h:Nat) (x:Te) (c t:Int) (ht:tOk (h+1) x) (h0:0≤c) (h1:0≤t) (hc:c+(h+1:Nat)≤1000) (hd:t+(h+1:Nat)≤1000)
 (hrec: ∀y ∈ x.l,∀c t:Int,0≤c→0≤t→c+h≤1000→t+h≤1000→Ab Tryz.prog Ms [Ie m1 m2 p1 p2,Ae y,uAV c t] A (teE (chT f g y c t)) A):
 Ab Tryz.prog Ms [Ie m1 m2 p1 p2,Ae x,uAV c t] A (teE (chT f g x c t)) A:=by
 have hsA:=hC.sc A.length (Nat.le_refl _)
 have hc1:=hC.c1 A.length (Nat.le_refl _)
 have hc2:=hC.c2 A.length (Nat.le_refl _)
 have hv1:=hC.vars
 have key:=chT_eq f g x c t
 obtain⟨hn1,hn2,hn3⟩:=Tw ht.1
 have hins: ∀i,i < x.l.length→_:=fun i hi=>Zd ht hi h0 h1 (by omega) (by omega)
 refine Ab.go mixed Avr (by simp) fun hfit Q hQ=>?_
 have hf:=W7 (c:=x) (by simpa[Bn,Ae,AV.fits] using hfit.2.1)
 have hln:x.l.length≤1073741824:=by simpa[A4] using hf.2.2.2.2.1
 clear hfit hf
 simp -implicitDefEqProofs[-A3,Aon,Ie,uAV,Ae,Aj x]
 rw[A3]
 simp -implicitDefEqProofs[-A3]
 rw[A3,A3]
 by_cases ho1:x.op=1
 · rw[if_pos ho1] at key
   obtain⟨g0,g1⟩:=hn3 ho1
   have hgv:=fun L=>(hC.var x.n c t g0 g1 h0 h1 (by omega) (by omega)).suffix rfl (by simp[Am,hc2,uAV]) hsA L
   generalize g x.n c t=q at key hgv
   obtain⟨y,e⟩:=q
   simp -implicitDefEqProofs[ho1]
   refine Fq (first:=[]) (r:=teE (y,e)) (by simpa[uAV] using hgv [_,_,_,_]) ?_
   simp -implicitDefEqProofs[teE,Ae,Aj y]
   refine hQ _ _ _ ?_
   simp -implicitDefEqProofs[key,teE,Ae,Aj y,hsA]
 rw[if_neg ho1] at key
 simp -implicitDefEqProofs[ho1, -A3]
 rw[A3]
 refine C3 (by rfl) ?_
 simp -implicitDefEqProofs[-A3]
 refine Bp (Nf x.names) (by simp) (by simp) (by simp[Ag,Aa,Ac,Al,Af,Kd.l,Ae,Aj]) ?_
 simp -implicitDefEqProofs[-A3]
 rw[A3]
 simp -implicitDefEqProofs[-A3]
 refine Qx (ι:=C6) (fun z=>A++[.var [.fn (.func m1) [] p1,.fn (.func m2) [] p2],.var [.int .i64 x.op,.int .i64 x.n,.str x.s,.int .i64 x.con.op,.int .i64 x.con.n,.str x.con.s,.sl .none (x.con.k.l.map Ao),.sl .none (Af x.con.names),.sl .none (x.con.l.map Ai),.int .i64 x.to.op,.int .i64 x.to.n,.str x.to.s,.sl .none (x.to.k.l.map Ao),.sl .none (Af x.to.names),.sl .none (x.to.l.map Ai),.sl .none (x.k.l.map Ao),.sl .none (Af x.names),.sl .none (x.l.map Bm)],.var [.int .i64 c,.int .i64 t],.var [.int .i64 0,.int .i64 0,.str [],.int .i64 0,.int .i64 0,.str [],.sl .nilT [],.sl .nilT [],.sl .nilT [],.int .i64 0,.int .i64 0,.str [],.sl .nilT [],.sl .nilT [],.sl .nilT [],.sl .nilT [],.sl .nilT [],.sl .nilT []],.var [.int .i64 x.op,.int .i64 x.n,.str x.s,z.a,z.b,z.c,z.d,z.e,z.f,.int .i64 0,.int .i64 0,.str [],.sl .nilT [],.sl .nilT [],.sl .nilT [],.sl .none (x.k.l.map Ao),.sl .none (Af x.names),.sl .nilT []]]) (fun z f'=>f' 9= .int .i64 0∧¬(hcT x.op=true∧(f x.con c t).2≠0)∧Ay z.l=Ai (if hcT x.op=true then (f x.con c t).1 else Az)∧z.l.all AV.isCell=true) ?_ ?_
 · intro Q' hn hr
   rw[A3]
   simp -implicitDefEqProofs[-A3]
   refine Ah (U0 x.op) (by simp) (by simp) (by simp[Ag,Aa,Ac,Al,Af,Kd.l,Ae,Aj]) ?_
   cases hh:hcT x.op
   · simp -implicitDefEqProofs 
     refine hn C6.zero _ (by simp -implicitDefEqProofs[AC.dsts,Au,At,Aq]) ?_
     exact⟨by simp[Aq],by simp[hh],by simp[C6.l,C6.zero,hh,Cu,Ay,AV.strip],by simp[C6.l,C6.zero,C6.of,AV.isCell]⟩
   · have hcon:=fun L=>(hC.con x.con c t (hn1 hh) h0 h1 (by omega) (by omega)).suffix rfl (by simp[Am,hc1,uAV]) hsA L
     generalize f x.con c t=q at key hcon hn ⊢
     obtain⟨y,e⟩:=q
     simp -implicitDefEqProofs 
     refine Fq (first:=[]) (r:=cnE (y,e)) (by simpa[uAV,Aa,Ac x.con] using hcon [_,_,_,_,_]) ?_
     simp -implicitDefEqProofs[cnE,Aa,Ac y]
     by_cases he:e=0
     · simp -implicitDefEqProofs[he]
       refine hn (C6.of y) _ (by simp -implicitDefEqProofs[AC.dsts,Au,At,Aq,he]) ?_
       exact⟨by simp[Aq,he],by simp[he],by simp[C6.l,C6.of,hh,Ac y,Ay,AV.strip],by simp[C6.l,C6.zero,C6.of,AV.isCell]⟩
     · have he':(e != 0)=true:=by simpa using he
       have k2:chT f g x c t=(Bv,e):=by rw[key,if_pos ⟨hh,he⟩]
       simp -implicitDefEqProofs[he,he']
       refine hr _ _ ?_
       simp -implicitDefEqProofs 
       refine hQ _ _ _ ?_
       simp -implicitDefEqProofs[k2,teE,Ae,D9,hsA]
 intro z f' hI
 have hI9:=hI.1
 have hI1:=hI.2.1
 have hsa:=hI.2.2.1
 have hca:z.a.isCell=true∧z.b.isCell=true∧z.c.isCell=true∧z.d.isCell=true∧z.e.isCell=true∧z.f.isCell=true:=by simpa[C6.l,and_assoc] using hI.2.2.2
 clear hI
 rw[if_neg hI1] at key
 generalize (if hcT x.op=true then (f x.con c t).1 else Az)=y1 at hsa key
 clear hI1 hn1
 simp -implicitDefEqProofs[-A3,AC.dsts,Au,At,hI9]
 refine Qx (ι:=C6) (fun y=>A++[.var [.fn (.func m1) [] p1,.fn (.func m2) [] p2],.var [.int .i64 x.op,.int .i64 x.n,.str x.s,.int .i64 x.con.op,.int .i64 x.con.n,.str x.con.s,.sl .none (x.con.k.l.map Ao),.sl .none (Af x.con.names),.sl .none (x.con.l.map Ai),.int .i64 x.to.op,.int .i64 x.to.n,.str x.to.s,.sl .none (x.to.k.l.map Ao),.sl .none (Af x.to.names),.sl .none (x.to.l.map Ai),.sl .none (x.k.l.map Ao),.sl .none (Af x.names),.sl .none (x.l.map Bm)],.var [.int .i64 c,.int .i64 t],.var [.int .i64 0,.int .i64 0,.str [],.int .i64 0,.int .i64 0,.str [],.sl .nilT [],.sl .nilT [],.sl .nilT [],.int .i64 0,.int .i64 0,.str [],.sl .nilT [],.sl .nilT [],.sl .nilT [],.sl .nilT [],.sl .nilT [],.sl .nilT []],.var [.int .i64 x.op,.int .i64 x.n,.str x.s,z.a,z.b,z.c,z.d,z.e,z.f,y.a,y.b,y.c,y.d,y.e,y.f,.sl .none (x.k.l.map Ao),.sl .none (Af x.names),.sl .nilT []]]) (fun y f'=>¬(x.op=8∧(f x.to c t).2≠0)∧Ay y.l=Ai (if x.op=8 then (f x.to c t).1 else Az)∧y.l.all AV.isCell=true) ?_ ?_
 · intro Q' hn hr
   rw[A3]
   simp -implicitDefEqProofs[-A3]
   cases hh:decide (x.op=8)
   · have hh': ¬x.op=8:=by simpa using hh
     simp -implicitDefEqProofs[hh]
     refine hn C6.zero _ (by simp -implicitDefEqProofs[AC.dsts,Au,At,Aq,hh]) ?_
     exact⟨by simp[hh'],by simp[C6.l,C6.zero,hh',Cu,Ay,AV.strip],by simp[C6.l,C6.zero,C6.of,AV.isCell]⟩
   · have hh':x.op=8:=by simpa using hh
     have hcon:=fun L=>(hC.con x.to c t (hn2 hh') h0 h1 (by omega) (by omega)).suffix rfl (by simp[Am,hc1,uAV]) hsA L
     generalize f x.to c t=q at key hcon hn ⊢
     obtain⟨y,e⟩:=q
     simp -implicitDefEqProofs[hh]
     refine Fq (first:=[]) (r:=cnE (y,e)) (by simpa[uAV,Aa,Ac x.to] using hcon [_,_,_,_,_]) ?_
     simp -implicitDefEqProofs[cnE,Aa,Ac y]
     by_cases he:e=0
     · simp -implicitDefEqProofs[he]
       refine hn (C6.of y) _ (by simp -implicitDefEqProofs[AC.dsts,Au,At,Aq,hh,he]) ?_
       exact⟨by simp[he],by simp[C6.l,C6.of,hh',Ac y,Ay,AV.strip],by simp[C6.l,C6.zero,C6.of,AV.isCell]⟩
     · have he':(e != 0)=true:=by simpa using he
       have k2:chT f g x c t=(Bv,e):=by rw[key,if_pos ⟨hh',he⟩]
       simp -implicitDefEqProofs[he,he']
       refine hr _ _ ?_
       simp -implicitDefEqProofs 
       refine hQ _ _ _ ?_
       simp -implicitDefEqProofs[k2,teE,Ae,D9,hsA]
 intro v f'' hI
 have hI1:=hI.1
 have hsb:=hI.2.1
 have hcb:v.a.isCell=true∧v.b.isCell=true∧v.c.isCell=true∧v.d.isCell=true∧v.e.isCell=true∧v.f.isCell=true:=by simpa[C6.l,and_assoc] using hI.2.2
 clear hI
 rw[if_neg hI1] at key
 generalize (if x.op=8 then (f x.to c t).1 else Az)=y2 at hsb key
 clear hI1 hn2
 simp -implicitDefEqProofs[AC.dsts,Au,At]
 have hsa:=An9 (a1:=z.a) (a2:=z.b) (a3:=z.c) (a4:=z.d) (a5:=z.e) (a6:=z.f) hsa
 have hsb:=An9 (a1:=v.a) (a2:=v.b) (a3:=v.c) (a4:=v.d) (a5:=v.e) (a6:=v.f) hsb
 refine B5 (AWp.loopI [A.length+4] (fun n f' h G=>∃(k:Nat) (tok:Tok) (P:List Te),k+n=x.l.length∧P.length=k∧f' 74= .int .i64 k∧
  h (A.length+4)=[.int .i64 x.op,.int .i64 x.n,.str x.s,z.a,z.b,z.c,z.d,z.e,z.f,v.a,v.b,v.c,v.d,v.e,v.f,.sl .none (x.k.l.map Ao),.sl .none (Af x.names),.sl tok (P.map Bm)]∧
  owns (A.length+5) G tok (P.map Bm) 18∧(Ey f g x.op (x.l.drop k) k c t).2=(Ey f g x.op x.l 0 c t).2∧P++(Ey f g x.op (x.l.drop k) k c t).1=(Ey f g x.op x.l 0 c t).1) x.l.length (by simp) ⟨0,.nilT,[],by simp,rfl,rfl,by simp[Dx],E7 _ _ _,rfl,rfl⟩ ?_)
 rintro n f3 h' G ⟨k,tok,P,hk,hP,h74,ho',hown,he2,he1⟩
 refine AWp.run mixed fun Q2 hQ2=>?_
 simp -implicitDefEqProofs[AC.dsts,Au,At,Bo,h74,ho']
 by_cases hlt:k < x.l.length
 · have hd':=List.drop_eq_getElem_cons hlt
   obtain⟨i1,i2,i3,i4⟩:=hins k hlt
   have hcall:=fun L=>(hrec x.l[k] (List.getElem_mem _) (C9 x.op k c t).1 (C9 x.op k c t).2 i1 i3 (by omega) (by omega)).suffix rfl (by simp[Am,hc1,hc2,Ie,uAV,AV.inScope]) hsA L
   have hin:=Aop x k c t
   rw[hd',Ey] at he1 he2
   generalize C9 x.op k c t=u at hcall hin he1 he2
   generalize chT f g x.l[k] u.1 u.2=p at he1 he2 hcall
   obtain⟨y,e⟩:=p
   simp only at he1 he2
   simp -implicitDefEqProofs[hlt]
   refine Fe (fun _=>true) [] (by rfl) (by rfl) ?_
   simp -implicitDefEqProofs 
   refine Bp hin (by simp[uAV]) (Amf _ _ _) (by simp[uAV,Ae,Aj x]) ?_
   simp -implicitDefEqProofs[uAV]
   refine Vb (r:=teE (y,e)) (fun H hH=>?_) ?_
   · obtain⟨M,rfl⟩:=Yn hv1 (fun _ _=>rfl) hH
     simpa[Ae,Ie,uAV] using hcall M
   simp -implicitDefEqProofs[teE,Ae]
   refine⟨fun b cs _ hb=>by simpa using Dj (L:=[_]) hb,?_⟩
   by_cases hz:e=0
   · rw[if_neg (by simpa using hz)] at he1 he2
     simp only at he1 he2
     simp -implicitDefEqProofs[hz,A1]
     refine Rc (A++[_,_,_,_,_]) (G++[_,_]) (by simp only[List.append_assoc,List.cons_append,List.nil_append]; rfl) (by simpa using E5 hown) (by simp[A4]; omega) (Ek _ _ A0g) (by simp) fun tok' G' hown' hG'=>?_
     simp -implicitDefEqProofs[Ba (n:=(k:Int)+1) (by omega) (by omega)]
     refine hQ2 _ _ _ (Cb (n - 1) (fun _=>[.int .i64 x.op,.int .i64 x.n,.str x.s,z.a,z.b,z.c,z.d,z.e,z.f,v.a,v.b,v.c,v.d,v.e,v.f,.sl .none (x.k.l.map Ao),.sl .none (Af x.names),.sl tok' ((P++[y]).map Bm)]) (G':=G') (by simp[Bo]) (by omega) (by simp -implicitDefEqProofs[AC.dsts,Au,At,Aq,hz]) ?_)
     exact⟨k+1,tok',P++[y],by omega,by simp[hP],by simp[Aq],rfl,by simpa using hown',he2,by rw[← he1]; simp⟩
   · rw[if_pos hz] at he1 he2
     simp only at he1 he2
     have hz':(e != 0)=true:=by simpa using hz
     have e1:chT f g x c t=(Bv,e):=by rw[key,← he2,if_pos hz]
     simp -implicitDefEqProofs[hz',hz]
     refine hQ2 _ _ _ (Dg ?_)
     show KR _ _ Q _ _
     simp -implicitDefEqProofs 
     refine hQ _ _ _ ?_
     simp -implicitDefEqProofs[e1,teE,Ae,D9,hsA]
 · have hPe:P=(Ey f g x.op x.l 0 c t).1:=by rw[← he1,List.drop_eq_nil_of_le (by omega)]; simp[Ey]
   have hs0:(Ey f g x.op x.l 0 c t).2=0:=by rw[← he2,List.drop_eq_nil_of_le (by omega)]; rfl
   rw[if_neg (by simpa using hs0),← hPe] at key
   simp only[AV.isCell] at hca hcb
   simp -implicitDefEqProofs[hlt]
   refine hQ2 _ _ _ (Ce ?_)
   show KE _ 0 _ Q _ _
   simp -implicitDefEqProofs[hca,hcb]
   refine hQ _ _ _ ?_
   simp -implicitDefEqProofs[key,teE,Ae,Tc,hsA,hsa,hsb]
theorem Ab6 (m1 m2:Nat) (p1 p2:List AV) (A:List HB) (f:Cn→Int→Int→Cn × Int) (g:Int→Int→Int→Te × Int) (hC:Chg m1 m2 p1 p2 A f g):
 ∀(h:Nat) (x:Te) (c t:Int),tOk h x→0≤c→0≤t→c+h≤1000→t+h≤1000→Ab Tryz.prog Ms [Ie m1 m2 p1 p2,Ae x,uAV c t] A (teE (chT f g x c t)) A
 | 0,_,_,_,ht,_,_,_,_=>ht.elim
 | h+1,x,c,t,ht,h0,h1,hc,hd=>Ark m1 m2 p1 p2 A f g hC h x c t ht h0 h1 hc hd fun y hy c t g0 g1 g2 g3=>Ab6 m1 m2 p1 p2 A f g hC h y c t (ht.2 y hy) g0 g1 g2 g3
theorem Atj {c:Cn} (h:C5 c Az=true):Ap c=1:=by
 rw[Ws] at h
 simp only[Bool.and_eq_true] at h
 have hl:c.l=[]:=by
  have:=h.2
  cases hc:c.l with
  | nil=>rfl
  | cons x xs=>rw[hc] at this;simp[Az,Cn.l,Bt] at this
 rw[Gp,hl]; rfl
theorem nodeT_zc {t:Te} (h:E6 t=true) (ho: ¬hcT t.op=true):C5 t.con Az=true:=by
 simp only[E6,Bool.and_eq_true] at h
 have:=h.2.2.1
 rwa [Im,if_neg ho] at this
theorem nodeT_zt {t:Te} (h:E6 t=true) (ho: ¬t.op=8):C5 t.to Az=true:=by
 simp only[E6,Bool.and_eq_true] at h
 have:=h.2.2.2
 rwa [Im,if_neg (by simpa using ho)] at this
theorem O1: ∀(h:Nat) (t:Te),tOk h t→teB t
 | 0,_,h=>h.elim
 | h+1,t,ht=>by
   obtain⟨h1,h2⟩:=ht
   rw[J1]
   have hz: ∀c:Cn,C5 c Az=true→Ap c≤1000000000000:=fun c hc=>by rw[Atj hc]; decide
   refine⟨?_,?_,fun x hx=>O1 h x (h2 x hx)⟩
   · by_cases ho:hcT t.op=true
     · have:=Y4 h1 ho;omega
     · exact hz _ (nodeT_zc h1 ho)
   · by_cases ho:t.op=8
     · have:=Xs h1 ho;omega
     · exact hz _ (nodeT_zt h1 ho)
mutual
theorem Aan (f:Cn→Int→Int→Cn × Int) (g:Int→Int→Int→Te × Int) (hf: ∀c a b,Ap (f c a b).1≤1000000000000) (hg: ∀n a b,teB (g n a b).1): ∀(x:Te) (c t:Int),teB (chT f g x c t).1
 | .mk op n s con tto k ns l,c,t=>by
   have hz:teB Bv:=by rw[Bv,teB]; exact⟨by decide,by decide,by simp⟩
   rw[chT]
   split
   · exact hg _ _ _
   · split
     · exact hz
     · split
       · exact hz
       · split
         · exact hz
         · rw[teB]
           refine⟨?_,?_,Ank f g hf hg op l 0 c t⟩
           · split
             · exact hf _ _ _
             · decide
           · split
             · exact hf _ _ _
             · decide
theorem Ank (f:Cn→Int→Int→Cn × Int) (g:Int→Int→Int→Te × Int) (hf: ∀c a b,Ap (f c a b).1≤1000000000000) (hg: ∀n a b,teB (g n a b).1) (op:Int): ∀(l:List Te) (i:Nat) (c t:Int),∀y ∈ (Ey f g op l i c t).1,teB y
 | [],_,_,_=>by simp[Ey]
 | x :: xs,i,c,t=>by
   have h1:=Aan f g hf hg x (C9 op i c t).1 (C9 op i c t).2
   have h2:=Ank f g hf hg op xs (i+1) c t
   rw[Ey]
   split
   · simp
   · intro y hy
     rcases List.mem_cons.1 hy with rfl | hy
     · exact h1
     · exact h2 y hy
end
def Hn (n:Int):Te:=.mk 1 n [] Az Az (.mk []) [] []
theorem Abf (n:Int):Bm (Hn n)=[.int .i64 1,.int .i64 n,.str [],.int .i64 0,.int .i64 0,.str [],.sl .none [],.sl .none [],.sl .none [],.int .i64 0,.int .i64 0,.str [],.sl .none [],.sl .none [],.sl .none [],.sl .none [],.sl .none [],.sl .none []]:=by
 rw[Hn,Tc]; rfl
theorem All (n:Int):teB (Hn n):=by rw[Hn,teB]; exact⟨by decide,by decide,by simp⟩
theorem Aif (t:Te) (e:Int) (hb:teB t): ∃p,Ab Tryz.prog Xo [Ae t,.int .i64 e] [] (teE p) []∧(p.2=0→tOk 400 p.1)∧(p.2≠0→p.1=Bv):=by
 obtain⟨b,hv,hok⟩:=Sn t hb
 by_cases he:e=0
 · cases b with
   | true=>
     refine⟨(t,0),?_,fun _=>hok rfl,by simp⟩
     refine Ab.go mixed Zi (by simp) fun hfit Q hQ=>?_
     clear hfit
     simp -implicitDefEqProofs[Vd,Ae,Aj t,he]
     refine Ah (hv) (by simp) (by simp) (by simp[Ag,Aa,Ac,Al,Af,Kd.l,Ae,Aj]) ?_
     simp -implicitDefEqProofs 
     refine hQ _ _ _ ?_
     simp -implicitDefEqProofs[teE,Ae,Aj t]
   | false=>
     refine⟨(Bv,6),?_,by simp,by simp⟩
     refine Ab.go mixed Zi (by simp) fun hfit Q hQ=>?_
     clear hfit
     simp -implicitDefEqProofs[Vd,Ae,Aj t,he]
     refine Ah (hv) (by simp) (by simp) (by simp[Ag,Aa,Ac,Al,Af,Kd.l,Ae,Aj]) ?_
     simp -implicitDefEqProofs 
     refine hQ _ _ _ ?_
     simp -implicitDefEqProofs[teE,Ae,D9]
 · have he':(e != 0)=true:=by simpa using he
   refine⟨(Bv,6),?_,by simp,by simp⟩
   refine Ab.go mixed Zi (by simp) fun hfit Q hQ=>?_
   clear hfit
   simp -implicitDefEqProofs[Vd,Ae,Aj t,he,he']
   refine hQ _ _ _ ?_
   simp -implicitDefEqProofs[teE,Ae,D9]
theorem Ajs (n:Int):Ab Tryz.prog Vh [.int .i64 n] [] (.bool (decide (-20000≤n) && decide (n≤20000))) []:=by
 refine Ab.go mixed Ay6 (by simp) fun hfit Q hQ=>?_
 clear hfit
 simp -implicitDefEqProofs[Alv]
 repeat' (first | (refine Cl (fun hb=>?_) (fun hb=>?_)<;>(try simp only[Bool.not_eq_true',Bool.not_eq_true,Bool.not_eq_false,Bool.not_eq_false',Bool.not_true,Bool.not_false,decide_eq_true_eq,decide_eq_false_iff_not,decide_not,Decidable.not_not] at hb)<;>simp -implicitDefEqProofs[hb]) | (refine Dp (fun hb=>?_) (fun hb=>?_)<;>(try simp only[Bool.not_eq_true',Bool.not_eq_true,Bool.not_eq_false,Bool.not_eq_false',Bool.not_true,Bool.not_false,decide_eq_true_eq,decide_eq_false_iff_not,decide_not,Decidable.not_not] at hb)<;>simp -implicitDefEqProofs[hb]))
 all_goals (refine hQ _ _ _ ?_;simp -implicitDefEqProofs[*])
theorem Ay4 (c:Cn) (a b d:Int) (A:List HB) (i:Nat) (hi:A[i]? =some (.var [.int .i64 d])) (hsc:As A.length A=true) (hc:A6 c=true) (h0:0≤d) (h1:d≤20000) (h2:0≤a) (h3:a≤1000):
 Ab Tryz.prog Pr [Aa c,uAV a b,.ptr i 0] A (cnE (shS c d a)) A:=by
 have hil:=(List.getElem?_eq_some_iff.1 hi).1
 have hi': ∀L:List HB,(A++L)[i]? =some (.var [.int .i64 d]):=fun L=>by rw[List.getElem?_append_left hil]; exact hi
 have hsh:=Le c d a (by have:=Fp hc;omega) h0 h1 h2 (by omega)
 generalize shS c d a=p at hsh ⊢
 obtain⟨y,e⟩:=p
 refine Ab.go mixed Ax1 (by simp) fun hfit Q hQ=>?_
 clear hfit
 simp -implicitDefEqProofs[Anp,Aa,Ac c,uAV,hi']
 refine Ah hsh (by simp) (Co _ 0) (by simp[Aa,Ac c]) ?_
 simp -implicitDefEqProofs[cnE,Aa,Ac y]
 refine hQ _ _ _ ?_
 simp -implicitDefEqProofs[cnE,Aa,Ac y,hsc]
theorem A1s (n a b d:Int) (A:List HB) (i:Nat) (hi:A[i]? =some (.var [.int .i64 d])) (hsc:As A.length A=true):
 Ab Tryz.prog Oa [.int .i64 n,uAV a b,.ptr i 0] A (teE (Hn (if b≤n then IntKind.i64.wrap (n+d) else n),0)) A:=by
 have hil:=(List.getElem?_eq_some_iff.1 hi).1
 have hi': ∀L:List HB,(A++L)[i]? =some (.var [.int .i64 d]):=fun L=>by rw[List.getElem?_append_left hil]; exact hi
 refine Ab.go mixed Aw7 (by simp) fun hfit Q hQ=>?_
 clear hfit
 simp -implicitDefEqProofs[Aqp,uAV]
 by_cases h:b≤n
 · simp -implicitDefEqProofs[h,hi']
   refine hQ _ _ _ ?_
   simp -implicitDefEqProofs[h,teE,Ae,Abf,hsc]
 · simp -implicitDefEqProofs[h]
   refine hQ _ _ _ ?_
   simp -implicitDefEqProofs[h,teE,Ae,Abf,hsc]
theorem Ay1 (d1 d2:Int) (A:List HB) (hsc: ∀n,A.length≤n→As n A=true):Ab Tryz.prog Acj [.int .i64 d1,.int .i64 d2] A
 (Ie Pr Oa [.ptr A.length 0] [.ptr (A.length+1) 0]) (A++[.var [.int .i64 d1],.var [.int .i64 d2]]):=by
 have a1:=hsc (A.length+2) (by omega)
 refine Ab.go mixed Atx (by simp) fun hfit Q hQ=>?_
 clear hfit
 simp -implicitDefEqProofs[Afq]
 refine hQ _ _ _ ?_
 simp -implicitDefEqProofs[Ie,a1,Ei]
theorem Ask (d1 d2:Int) (h0:0≤d1) (h1:d1≤20000) (A:List HB) (i j:Nat) (hi:A[i]? =some (.var [.int .i64 d1])) (hj:A[j]? =some (.var [.int .i64 d2])) (hv: ∀b,b < A.length→∃cs,A[b]? =some (.var cs)) (hs: ∀n,A.length≤n→As n A=true):
 Chg Pr Oa [.ptr i 0] [.ptr j 0] A (fun c a _=>shS c d1 a) (fun n _ b=>(Hn (if b≤n then IntKind.i64.wrap (n+d2) else n),0)) where
 con c a b hc g0 _ g1 _:=Ay4 c a b d1 A i hi (hs _ (Nat.le_refl _)) hc h0 h1 g0 g1
 var n a b _ _ _ _ _ _:=A1s n a b d2 A j hj (hs _ (Nat.le_refl _))
 vars:=hv
 sc:=hs
 c1 n hn:=by
  have:=(List.getElem?_eq_some_iff.1 hi).1
  simp[Am,AV.inScope]; omega
 c2 n hn:=by
  have:=(List.getElem?_eq_some_iff.1 hj).1
  simp[Am,AV.inScope]; omega
end Go.Proofs.YtemdkfnenjpioaaGreatDoor
namespace Go.Proofs.YtemdkfnenjpioaaGreatDoor
open Go
attribute [local simp] Ar aev Ax A7 start AV.cells AV.undef Bc Be Bh Bl Bj AV.isCell Bf A1 Bi
attribute [local simp] fin A9 A8 Bb AV.strip Ay A5 AV.inScope Am A0 As
attribute [local simp] Ca Cg
attribute [-simp] Int.not_lt Int.not_le
mutual
def rp (l:List Cn):Cn→Int→Cn
 | .mk o n s k ns cl,d=>if o=1 then (if IntKind.i64.wrap (n - d) < 0 then .mk o n s k ns cl else
  match l[(IntKind.i64.wrap (n - d)).toNat]? with
  | some x=>if (shX x d 0).2≠0 then Az else (shX x d 0).1
  | none=>.mk o (IntKind.i64.wrap (n - l.length)) s k ns cl)
  else .mk o n s k ns (rps l cl (if opB o=true then d+1 else d))
def rps (l:List Cn):List Cn→Int→List Cn
 | [],_=>[]
 | x :: xs,d=>rp l x d :: rps l xs d
end
theorem rp_eq (l:List Cn) (c:Cn) (d:Int):rp l c d=if c.op=1 then (if IntKind.i64.wrap (c.n - d) < 0 then c else
 match l[(IntKind.i64.wrap (c.n - d)).toNat]? with
 | some x=>if (shX x d 0).2≠0 then Az else (shX x d 0).1
 | none=>.mk c.op (IntKind.i64.wrap (c.n - l.length)) c.s c.k c.names c.l)
 else .mk c.op c.n c.s c.k c.names (rps l c.l (if opB c.op=true then d+1 else d)):=by
 cases c;rw[rp]; rfl
mutual
theorem Aji (l:List Cn): ∀(c:Cn) (d:Int),Ap (rp l c d)≤20000 * Ap c
 | .mk o n s k ns cl,d=>by
   have h:=Ant l cl (if opB o=true then d+1 else d)
   rw[rp]
   split
   · split
     · simp only[Ap]; omega
     · split
       · rename_i x _
         have:=Aqk (c:=x) (d:=d) (fr:=0)
         split
         · simp only[Az,Ap,Bu]; omega
         · simp only[Ap]; omega
       · simp only[Ap]; omega
   · simp only[Ap]; omega
theorem Ant (l:List Cn): ∀(cs:List Cn) (d:Int),Bu (rps l cs d)≤20000 * Bu cs
 | [],_=>by simp[rps,Bu]
 | c :: cs,d=>by
   have h1:=Aji l c d
   have h2:=Ant l cs d
   rw[rps]
   simp only[Bu]; omega
end
set_option maxHeartbeats 2000000 in
theorem A3d (l:List Cn) (hz: ∀x ∈ l,Ap x≤1000000000000) (c:Cn) (d:Int) (h0:0≤d) (hd:d+Cp c≤10000000)
 (hrec: ∀x ∈ c.l,∀d:Int,0≤d→d+Cp x≤10000000→Ab Tryz.prog Qm [Aa x,.sl .none (l.map Ai),.int .i64 d] [] (Aa (rp l x d)) []):
 Ab Tryz.prog Qm [Aa c,.sl .none (l.map Ai),.int .i64 d] [] (Aa (rp l c d)) []:=by
 have hdep:=K9 c
 have key:=rp_eq l c d
 have hB:(opB c.op=false∧(if opB c.op=true then d+1 else d)=d)∨(opB c.op=true∧(if opB c.op=true then d+1 else d)=d+1):=by
  cases opB c.op<;>simp
 generalize (if opB c.op=true then d+1 else d)=ub at key hB
 refine Ab.go mixed Avu (by simp) fun hfit Q hQ=>?_
 have hf:=H8 (c:=c) (by simpa[Bn,Aa,AV.fits] using hfit.1)
 have hln:c.l.length≤1073741824:=hf.2.2.2.2.2.2.2.1
 have hll:l.length≤1073741824:=by simpa[Bn,AV.fits,A4] using hfit.2.1.1
 clear hfit hf
 simp -implicitDefEqProofs[-A3,Ait,Aa,Ac c]
 rw[A3]
 simp -implicitDefEqProofs[-A3]
 by_cases h1:c.op=1
 · rw[if_pos h1] at key
   by_cases h2:IntKind.i64.wrap (c.n - d) < 0
   · rw[if_pos h2] at key
     simp -implicitDefEqProofs[h1,h2]
     refine hQ _ _ _ ?_
     simp -implicitDefEqProofs[key,Aa,Ac c,h1]
   rw[if_neg h2] at key
   obtain⟨j,hj⟩: ∃j:Nat,IntKind.i64.wrap (c.n - d)=j:=⟨_,(Int.toNat_of_nonneg (by omega)).symm⟩
   have hj0: ¬((j:Int) < 0):=by omega
   rw[hj,Int.toNat_natCast] at key
   by_cases h3:j < l.length
   · rw[List.getElem?_eq_getElem h3] at key
     simp only at key
     have hsh:=Ap6 l[j] d 0 (hz _ (List.getElem_mem _)) h0 (by omega) (by omega) (by omega)
     generalize shX l[j] d 0=p at key hsh
     obtain⟨r,e⟩:=p
     simp only at key
     simp -implicitDefEqProofs[h1,hj,hj0,h3]
     refine Ah hsh (by simp) (Co _ 0) (by simp[Aa,Ac l[j]]) ?_
     simp -implicitDefEqProofs[cnE,Aa,Ac r]
     by_cases he:e=0
     · rw[if_neg (by simpa using he)] at key
       simp -implicitDefEqProofs[he]
       refine hQ _ _ _ ?_
       simp -implicitDefEqProofs[key,Aa,Ac r]
     · rw[if_pos he] at key
       have he':(e != 0)=true:=by simpa using he
       simp -implicitDefEqProofs[he,he']
       refine hQ _ _ _ ?_
       simp -implicitDefEqProofs[key,Aa,Cu]
   · rw[List.getElem?_eq_none (by omega)] at key
     simp only at key
     simp -implicitDefEqProofs[h1,hj,hj0,h3]
     refine hQ _ _ _ ?_
     simp -implicitDefEqProofs[key,Aa,Ga,h1]
 rw[if_neg h1] at key
 have hbe:(c.op == 1)=false:=by simpa using h1
 rw[A3,A3]
 simp -implicitDefEqProofs[-A3,h1]
 rw[A3]
 refine C3 (by rfl) ?_
 simp -implicitDefEqProofs[-A3]
 refine Bp (Nf c.names) (by simp) (by simp) (by simp[Ag,Aa,Ac,Al,Af,Kd.l]) ?_
 simp -implicitDefEqProofs[-A3,Ag,Al c.k]
 refine E2 (fun f=>f 2= .int .i64 ub) (fun Q' hn hr=>?_) (fun f hI=>?_)
 · simp -implicitDefEqProofs 
   rcases hB with⟨hB,e⟩ | ⟨hB,e⟩
   · have hb:((¬ c.op=9∧¬c.op=10)∧¬c.op=11)∧¬c.op=13:=by simpa[opB] using hB
     obtain⟨⟨⟨b1,b2⟩,b3⟩,b4⟩:=hb
     simp -implicitDefEqProofs[b1,b2,b3,b4]
     refine hn _ (by simp -implicitDefEqProofs[AC.dsts,Au,At,Aq]) ?_
     simp[Aq,e]
   · have hb:c.op=9∨c.op=10∨c.op=11∨c.op=13:=by simpa[opB,or_assoc] using hB
     have hw:=Ba (n:=d+1) (by omega) (by omega)
     rcases hb with b | b | b | b
     · have q9:decide (c.op=9)=true:=decide_eq_true b
       simp -implicitDefEqProofs[q9,hw]
       refine hn _ (by simp -implicitDefEqProofs[AC.dsts,Au,At,Aq]) ?_
       simp[Aq,e]
     · have q9:decide (c.op=9)=false:=decide_eq_false (by omega)
       have q10:decide (c.op=10)=true:=decide_eq_true b
       simp -implicitDefEqProofs[q9,q10,hw]
       refine hn _ (by simp -implicitDefEqProofs[AC.dsts,Au,At,Aq]) ?_
       simp[Aq,e]
     · have q9:decide (c.op=9)=false:=decide_eq_false (by omega)
       have q10:decide (c.op=10)=false:=decide_eq_false (by omega)
       have q11:decide (c.op=11)=true:=decide_eq_true b
       simp -implicitDefEqProofs[q9,q10,q11,hw]
       refine hn _ (by simp -implicitDefEqProofs[AC.dsts,Au,At,Aq]) ?_
       simp[Aq,e]
     · have q9:decide (c.op=9)=false:=decide_eq_false (by omega)
       have q10:decide (c.op=10)=false:=decide_eq_false (by omega)
       have q11:decide (c.op=11)=false:=decide_eq_false (by omega)
       have q13:decide (c.op=13)=true:=decide_eq_true b
       simp -implicitDefEqProofs[q9,q10,q11,q13,hw]
       refine hn _ (by simp -implicitDefEqProofs[AC.dsts,Au,At,Aq]) ?_
       simp[Aq,e]
 have hub:0≤ub∧ub≤d+1:=by rcases hB with⟨_,e⟩ | ⟨_,e⟩<;>omega
 clear hB hbe
 simp -implicitDefEqProofs[AC.dsts,Au,At,hI]
 refine B5 (AWp.loopI [2] (fun n f' h G=>∃(k:Nat) (tok:Tok) (P:List Cn),k+n=c.l.length∧P.length=k∧f' 72= .int .i64 k∧
  h 2=[.int .i64 c.op,.int .i64 c.n,.str c.s,.sl .none (c.k.l.map Ao),.sl .none (Af c.names),.sl tok (P.map Ai)]∧
  owns 3 G tok (P.map Ai) 6∧P++rps l (c.l.drop k) ub=rps l c.l ub) c.l.length (by simp) ⟨0,.nilT,[],by simp,rfl,rfl,by simp[Dx],E7 _ _ _,rfl⟩ ?_)
 rintro n f' h' G ⟨k,tok,P,hk,hP,h72,ho',hown,he1⟩
 refine AWp.run mixed fun Q2 hQ2=>?_
 simp -implicitDefEqProofs[AC.dsts,Au,At,Bo,h72,ho']
 by_cases hlt:k < c.l.length
 · have hd':=List.drop_eq_getElem_cons hlt
   have hdm:=S7 (List.getElem_mem hlt)
   have hrec:=hrec c.l[k] (List.getElem_mem _) ub hub.1 (by omega)
   rw[hd',rps] at he1
   generalize rp l c.l[k] ub=y at he1 hrec
   simp -implicitDefEqProofs[hlt,Ac c.l[k]]
   refine C3 (by rfl) ?_
   simp -implicitDefEqProofs 
   refine Bp hrec (by simp) (by simp) (by simp[Aa,Ac c.l[k]]) ?_
   simp -implicitDefEqProofs[Aa,Ac y,A1]
   refine Acr [_,_,_] (G++[_]) (by simp only[List.append_assoc,List.cons_append,List.nil_append]; rfl) (by simpa using E5 hown) (by simp[A4]; omega) (Ek _ _ Hs) (by simp) fun tok' G' hown' hG'=>?_
   simp -implicitDefEqProofs[Ba (n:=(k:Int)+1) (by omega) (by omega)]
   refine hQ2 _ _ _ (Cb (n - 1) (fun _=>[.int .i64 c.op,.int .i64 c.n,.str c.s,.sl .none (c.k.l.map Ao),.sl .none (Af c.names),.sl tok' ((P++[y]).map Ai)]) (G':=G') (by simp[Bo,Ac y]) (by omega) (by simp -implicitDefEqProofs[AC.dsts,Au,At,Aq]) ?_)
   exact⟨k+1,tok',P++[y],by omega,by simp[hP],by simp[Aq],by simp,by simpa[Ac y] using hown',by rw[← he1]; simp⟩
 · have hPe:P=rps l c.l ub:=by rw[← he1,List.drop_eq_nil_of_le (by omega)]; simp[rps]
   rw[← hPe] at key
   simp -implicitDefEqProofs[hlt]
   refine hQ2 _ _ _ (Ce ?_)
   show KE _ 2 _ Q _ _
   simp -implicitDefEqProofs 
   refine hQ _ _ _ ?_
   simp -implicitDefEqProofs[key,Aa,Ga]
theorem Ajw (l:List Cn) (hz: ∀x ∈ l,Ap x≤1000000000000) (c:Cn) (d:Int) (h0:0≤d) (hd:d+Cp c≤10000000):
 Ab Tryz.prog Qm [Aa c,.sl .none (l.map Ai),.int .i64 d] [] (Aa (rp l c d)) []:=
 A3d l hz c d h0 hd fun x hx d h0 hd=>Ajw l hz x d h0 hd
termination_by SizeOf.sizeOf c
decreasing_by exact Cn.lt_l ‹_›
end Go.Proofs.YtemdkfnenjpioaaGreatDoor
namespace Go.Proofs.YtemdkfnenjpioaaGreatDoor
open Go
attribute [local simp] Ar aev Ax A7 start AV.cells AV.undef Bc Be Bh Bl Bj AV.isCell Bf A1 Bi
attribute [local simp] fin A9 A8 Bb AV.strip Ay A5 AV.inScope Am A0 As
attribute [local simp] Ca Cg
attribute [-simp] Int.not_lt Int.not_le
theorem Atq (c:Cn) (hc:Ap c≤1000000000000):Ab Tryz.prog T4 [Aa c] [] (.bool !A6 c) []:=by
 refine Ab.go mixed A2j (by simp) fun hfit Q hQ=>?_
 clear hfit
 simp -implicitDefEqProofs[Ajm,Aa]
 refine Ah (D5 c hc) (by simp) (by simp) (by simp[Ag,Aa,Ac,Al,Af,Kd.l,Ae,Aj]) ?_
 simp -implicitDefEqProofs 
 refine hQ _ _ _ ?_
 simp -implicitDefEqProofs 
def rpF (l:List Cn) (c:Cn) (a _b:Int):Cn × Int:=if A6 c=true then (rp l c a,0) else (Az,0)
theorem rpF_size (l:List Cn) (c:Cn) (a b:Int):Ap (rpF l c a b).1≤1000000000000:=by
 unfold rpF
 split
 · rename_i h
   have:=Aji l c a
   have:=Fp h
   simp only;omega
 · decide
theorem A2o (l:List Cn) (hz: ∀x ∈ l,Ap x≤1000000000000) (c:Cn) (a b:Int) (A:List HB) (i:Nat) (hi:A[i]? =some (.var [.sl .none (l.map Ai)])) (hsc:As A.length A=true)
 (hv:A6 c=true) (h0:0≤a) (hd:a≤1000):
 Ab Tryz.prog Vk [Aa c,uAV a b,.ptr i 0] A (cnE (rpF l c a b)) A:=by
 have hil:=(List.getElem?_eq_some_iff.1 hi).1
 have hi': ∀L:List HB,(A++L)[i]? =some (.var [.sl .none (l.map Ai)]):=fun L=>by rw[List.getElem?_append_left hil]; exact hi
 have hdep:Cp c≤400:=by simp only[A6,Bool.and_eq_true,decide_eq_true_eq] at hv;exact hv.2.1
 have hsh:=Ajw l hz c a h0 (by omega)
 rw[rpF,if_pos hv]
 generalize rp l c a=r at hsh ⊢
 refine Ab.go mixed Avx (by simp) fun hfit Q hQ=>?_
 clear hfit
 simp -implicitDefEqProofs[Ahu,Aa,Ac c,uAV,hi']
 refine Ah hsh (by simp) (by simp) (by simp[Aa,Ac c]) ?_
 simp -implicitDefEqProofs[Aa,Ac r]
 refine hQ _ _ _ ?_
 simp -implicitDefEqProofs[hsc,cnE,Aa,Ac r]
theorem A2p (n a b:Int) (A:List HB) (hsc:As A.length A=true):Ab Tryz.prog Xr [.int .i64 n,uAV a b] A (teE (Hn n,0)) A:=by
 refine Ab.go mixed Ary (by simp) fun hfit Q hQ=>?_
 clear hfit
 simp -implicitDefEqProofs[Aks,uAV]
 refine hQ _ _ _ ?_
 simp -implicitDefEqProofs[teE,Ae,Abf,hsc]
def Cw:List AV:=[.int .i64 0,.int .i64 0,.str [],.int .i64 0,.int .i64 0,.str [],.sl .nilT [],.sl .nilT [],.sl .nilT [],.int .i64 0,.int .i64 0,.str [],.sl .nilT [],.sl .nilT [],.sl .nilT [],.sl .nilT [],.sl .nilT [],.sl .nilT []]
theorem A0r (t:Te) (l:List Cn) (hb:teB t) (hz: ∀x ∈ l,Ap x≤1000000000000): ∃p,Ab Tryz.prog Acx [Ae t,.sl .none (l.map Ai)] [] (teE p) []∧(p.2=0→tOk 400 p.1)∧(p.2≠0→p.1=Bv):=by
 have hany:Ab Tryz.prog Fk [.sl .none (l.map Ai),.fn (.func T4) [] []] [] (.bool !l.all A6) []:=by
  have h:=Ir l (fun x=>!A6 x) T4 fun x hx=>Atq x (hz x hx)
  rw[Hg] at h
  exact h
 obtain⟨b,hv,hok⟩:=Sn t hb
 cases b with
 | false=>
   refine⟨(Bv,1),?_,by simp,by simp⟩
   refine Ab.go mixed Ul (by simp) fun hfit Q hQ=>?_
   clear hfit
   simp -implicitDefEqProofs[Se,Ae,Aj t]
   refine Ah (hv) (by simp) (by simp) (by simp[Ag,Aa,Ac,Al,Af,Kd.l,Ae,Aj]) ?_
   simp -implicitDefEqProofs 
   refine hQ _ _ _ ?_
   simp -implicitDefEqProofs[teE,Ae,D9]
 | true=>
 generalize hav:l.all A6=av at hany
 cases av with
 | false=>
   refine⟨(Bv,1),?_,by simp,by simp⟩
   refine Ab.go mixed Ul (by simp) fun hfit Q hQ=>?_
   clear hfit
   simp -implicitDefEqProofs[Se,Ae,Aj t]
   refine Ah (hv) (by simp) (by simp) (by simp[Ag,Aa,Ac,Al,Af,Kd.l,Ae,Aj]) ?_
   simp -implicitDefEqProofs 
   refine Ah (hany) (by simp) (by simp) (by simp[Ag,Aa,Ac,Al,Af,Kd.l,Ae,Aj]) ?_
   simp -implicitDefEqProofs 
   refine hQ _ _ _ ?_
   simp -implicitDefEqProofs[teE,Ae,D9]
 | true=>
 by_cases hl:1000 < l.length
 · have hl':(1000:Int) < (l.length:Int):=by omega
   refine⟨(Bv,5),?_,by simp,by simp⟩
   refine Ab.go mixed Ul (by simp) fun hfit Q hQ=>?_
   clear hfit
   simp -implicitDefEqProofs[Se,Ae,Aj t]
   refine Ah (hv) (by simp) (by simp) (by simp[Ag,Aa,Ac,Al,Af,Kd.l,Ae,Aj]) ?_
   simp -implicitDefEqProofs 
   refine Ah (hany) (by simp) (by simp) (by simp[Ag,Aa,Ac,Al,Af,Kd.l,Ae,Aj]) ?_
   simp -implicitDefEqProofs[hl,hl']
   refine hQ _ _ _ ?_
   simp -implicitDefEqProofs[teE,Ae,D9]
 have hl': ¬(1000:Int) < (l.length:Int):=by omega
 have hch:=Ab6 Vk Xr [.ptr 1 0] [] [.var (Bm t),.var [.sl .none (l.map Ai)],.var Cw] (rpF l) (fun n _ _=>(Hn n,0))
  { con:=fun c a b hc g0 _ g1 _=>A2o l hz c a b _ 1 rfl (by simp[As,Am,A0,AV.inScope,Cw,Aj t]) hc g0 g1
    var:=fun n a b _ _ _ _ _ _=>by simpa using A2p n a b _ (by simp[As,Am,A0,AV.inScope,Cw,Aj t])
    vars:=fun b hb=>match b,hb with
     | 0,_=>⟨_,rfl⟩
     | 1,_=>⟨_,rfl⟩
     | 2,_=>⟨_,rfl⟩
    sc:=fun n _=>by simp[As,Am,A0,AV.inScope,Cw,Aj t]
    c1:=fun n hn=>by simp only[List.length_cons,List.length_nil] at hn;simp[Am,AV.inScope]; omega
    c2:=fun n hn=>by simp[Am] } 400 t 0 0 (hok rfl) (by omega) (by omega) (by omega) (by omega)
 have hcb:=Aan (rpF l) (fun n _ _=>(Hn n,0)) (rpF_size l) (fun n _ _=>All n) t 0 0
 generalize chT (rpF l) (fun n _ _=>(Hn n,0)) t 0 0=p at hch hcb
 obtain⟨y,e⟩:=p
 obtain⟨q,hfin,hq⟩:=Aif y e hcb
 refine⟨q,?_,hq⟩
 clear hq hcb
 obtain⟨z,g⟩:=q
 refine Ab.go mixed Ul (by simp) fun hfit Q hQ=>?_
 clear hfit
 simp -implicitDefEqProofs[Se,Ae,Aj t]
 refine Ah (hv) (by simp) (by simp) (by simp[Ag,Aa,Ac,Al,Af,Kd.l,Ae,Aj]) ?_
 simp -implicitDefEqProofs 
 refine Ah (hany) (by simp) (by simp) (by simp[Ag,Aa,Ac,Al,Af,Kd.l,Ae,Aj]) ?_
 simp -implicitDefEqProofs[hl,hl']
 refine Br (r:=teE (y,e)) (by simpa[Ae,Aj t,Cw,Ie,uAV] using hch) ?_
 clear hch
 simp -implicitDefEqProofs[teE,Ae,Aj y]
 refine Ah hfin (by simp) (Ex _ 0) (by simp[Ae,Aj y]) ?_
 simp -implicitDefEqProofs[teE,Ae,Aj z]
 refine hQ _ _ _ ?_
 simp -implicitDefEqProofs[teE,Ae,Aj z]
end Go.Proofs.YtemdkfnenjpioaaGreatDoor
