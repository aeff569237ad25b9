/- Joined: Pk0 Pk1 Pk2 Pk3 Pk4 Pk5. -/
import Derived.Test.YtemdkfnenjpioaaGreatDoorG29
import Derived.Test.YtemdkfnenjpioaaGreatDoorG34
set_option linter.unusedSimpArgs false
set_option linter.unusedVariables false
set_option linter.unusedSectionVars false
set_option linter.all false
set_option maxHeartbeats 4000000
set_option maxRecDepth 10000
namespace Go.Proofs.YtemdkfnenjpioaaGreatDoor
open Go
attribute [local simp] Ar aev Ax A7 start AV.cells AV.undef Bc Be Bh Bl Bj AV.isCell Bf A1 Bi
attribute [local simp] fin A9 A8 Bb AV.strip Ay A5 AV.inScope Am A0 As
attribute [local simp] Ca Cg
attribute [-simp] Int.not_lt Int.not_le
theorem Pf (c:Cn) (hc:Ap c≤1000000000000):Ab Tryz.prog Ke [Aa c] [] (.bool !A6 c) []:=by
 refine Ab.go mixed A1q (by simp) fun hfit Q hQ=>?_
 clear hfit
 simp -implicitDefEqProofs[Apl,Aa,Ac c]
 refine Ah (D5 c hc) (by simp) (by simp) (by simp[Ag,Aa,Ac,Al,Af,Kd.l,An,Ak,Ae,Aj]) ?_
 simp -implicitDefEqProofs 
 refine hQ _ _ _ ?_
 simp -implicitDefEqProofs 
noncomputable def whE (t:Te):Te × Int:=if teV t=true then (t,0) else (Bv,6)
theorem Ar0 (t:Te) (ht:teB t):Ab Tryz.prog Mr [Ae t] [] (teE (whE t)) []:=by
 have h:=(I3 t ht).1
 have key:whE t=if teV t=true then (t,0) else (Bv,6):=rfl
 generalize teV t=b at h key
 cases b
 · have key:whE t=(Bv,6):=by rw[key]; rfl
   refine Ab.go mixed Adt (by simp) fun hfit Q hQ=>?_
   clear hfit
   simp -implicitDefEqProofs[Uy,Ae,Aj t]
   refine Ah (h) (by simp) (by simp) (by simp[Ag,Aa,Ac,Al,Af,Kd.l,An,Ak,Ae,Aj]) ?_
   simp -implicitDefEqProofs 
   refine hQ _ _ _ ?_
   simp -implicitDefEqProofs[key,teE,Ae,D9]
 · have key:whE t=(t,0):=by rw[key]; rfl
   refine Ab.go mixed Adt (by simp) fun hfit Q hQ=>?_
   clear hfit
   simp -implicitDefEqProofs[Uy,Ae,Aj t]
   refine Ah (h) (by simp) (by simp) (by simp[Ag,Aa,Ac,Al,Af,Kd.l,An,Ak,Ae,Aj]) ?_
   simp -implicitDefEqProofs 
   refine hQ _ _ _ ?_
   simp -implicitDefEqProofs[key,teE,Ae,Aj t]
theorem whE_ok {t:Te} (h:(whE t).2=0):tOk 400 (whE t).1:=by
 unfold whE at h ⊢
 cases hv:teV t
 · rw[if_neg (by simp[hv])] at h;simp at h
 · rw[if_pos rfl]; exact teV_ok hv
structure PkA (ks:List Kd) (s:Sm) (l:List Cn) (t:Te):Prop where
 s:C1 s
 t:teB t
 l: ∀x ∈ l,Ap x≤1000000000000
 k:ks.length≤1000
noncomputable def Gq (ks:List Kd) (s:Sm) (l:List Cn) (t:Te):Bool:=Ct s && ks.all Ee && teV t && decide (l.length=ks.length) && l.all A6
theorem Ayk (ks:List Kd) (s:Sm) (l:List Cn) (t:Te) (hA:PkA ks s l t) (hno:Gq ks s l t=false):Ab Tryz.prog Gj [Aw ks s,.sl .none (l.map Ai),Ae t] [] (teE (Bv,1)) []:=by
 have h1:=Ka s hA.s
 have hp:=Lk s
 have h2:=Mt ks
 have h3:=(I3 t hA.t).1
 have h5:=Ir l (fun x=>!A6 x) Ke fun x hx=>Pf x (hA.l x hx)
 rw[Hg] at h5
 unfold Gq at hno
 generalize Ct s=b1 at hp hno
 generalize Di s=z at h1 hp
 generalize ks.all Ee=b2 at h2 hno
 generalize teV t=b3 at h3 hno
 generalize l.all A6=b5 at h5 hno
 cases b1
 · have hz:z=0:=hp.2 rfl
   subst hz
   refine Ab.go mixed J7 (by simp) fun hfit Q hQ=>?_
   clear hfit
   simp -implicitDefEqProofs[Gz,Aw,Ae,Ak s,Aj t]
   refine Ah (h1) (by simp) (by simp) (by simp[Ag,Aa,Ac,Al,Af,Kd.l,An,Ak,Ae,Aj]) ?_
   simp -implicitDefEqProofs 
   refine hQ _ _ _ ?_
   simp -implicitDefEqProofs[teE,Ae,D9]
 have hz: ¬z=0:=fun h=>by have:=hp.1 h;cases this
 have hz':(z == 0)=false:=by simpa using hz
 have hl:True:=trivial
 have hl':True:=trivial
 cases b2
 · refine Ab.go mixed J7 (by simp) fun hfit Q hQ=>?_
   clear hfit
   simp -implicitDefEqProofs[Gz,Aw,Ae,Ak s,Aj t]
   refine Ah (h1) (by simp) (by simp) (by simp[Ag,Aa,Ac,Al,Af,Kd.l,An,Ak,Ae,Aj]) ?_
   simp -implicitDefEqProofs[hz,hz']
   refine Ah (h2) (by simp) (by simp) (by simp[Ag,Aa,Ac,Al,Af,Kd.l,An,Ak,Ae,Aj]) ?_
   simp -implicitDefEqProofs 
   refine hQ _ _ _ ?_
   simp -implicitDefEqProofs[teE,Ae,D9]
 cases b3
 · refine Ab.go mixed J7 (by simp) fun hfit Q hQ=>?_
   clear hfit
   simp -implicitDefEqProofs[Gz,Aw,Ae,Ak s,Aj t]
   refine Ah (h1) (by simp) (by simp) (by simp[Ag,Aa,Ac,Al,Af,Kd.l,An,Ak,Ae,Aj]) ?_
   simp -implicitDefEqProofs[hz,hz']
   refine Ah (h2) (by simp) (by simp) (by simp[Ag,Aa,Ac,Al,Af,Kd.l,An,Ak,Ae,Aj]) ?_
   simp -implicitDefEqProofs 
   refine Ah (h3) (by simp) (by simp) (by simp[Ag,Aa,Ac,Al,Af,Kd.l,An,Ak,Ae,Aj]) ?_
   simp -implicitDefEqProofs 
   refine hQ _ _ _ ?_
   simp -implicitDefEqProofs[teE,Ae,D9]
 clear hl hl'
 by_cases hl:l.length=ks.length
 case neg=>
  have hl': ¬(l.length:Int)=(ks.length:Int):=by omega
  refine Ab.go mixed J7 (by simp) fun hfit Q hQ=>?_
  clear hfit
  simp -implicitDefEqProofs[Gz,Aw,Ae,Ak s,Aj t]
  refine Ah (h1) (by simp) (by simp) (by simp[Ag,Aa,Ac,Al,Af,Kd.l,An,Ak,Ae,Aj]) ?_
  simp -implicitDefEqProofs[hz,hz']
  refine Ah (h2) (by simp) (by simp) (by simp[Ag,Aa,Ac,Al,Af,Kd.l,An,Ak,Ae,Aj]) ?_
  simp -implicitDefEqProofs 
  refine Ah (h3) (by simp) (by simp) (by simp[Ag,Aa,Ac,Al,Af,Kd.l,An,Ak,Ae,Aj]) ?_
  simp -implicitDefEqProofs[hl,hl']
  refine hQ _ _ _ ?_
  simp -implicitDefEqProofs[teE,Ae,D9]
 have hl':(l.length:Int)=(ks.length:Int):=by omega
 obtain rfl:b5=false:=by simpa[hl] using hno
 refine Ab.go mixed J7 (by simp) fun hfit Q hQ=>?_
 clear hfit
 simp -implicitDefEqProofs[Gz,Aw,Ae,Ak s,Aj t]
 refine Ah (h1) (by simp) (by simp) (by simp[Ag,Aa,Ac,Al,Af,Kd.l,An,Ak,Ae,Aj]) ?_
 simp -implicitDefEqProofs[hz,hz']
 refine Ah (h2) (by simp) (by simp) (by simp[Ag,Aa,Ac,Al,Af,Kd.l,An,Ak,Ae,Aj]) ?_
 simp -implicitDefEqProofs 
 refine Ah (h3) (by simp) (by simp) (by simp[Ag,Aa,Ac,Al,Af,Kd.l,An,Ak,Ae,Aj]) ?_
 simp -implicitDefEqProofs[hl,hl']
 refine Ah (h5) (by simp) (by simp) (by simp[Ag,Aa,Ac,Al,Af,Kd.l,An,Ak,Ae,Aj]) ?_
 simp -implicitDefEqProofs 
 refine hQ _ _ _ ?_
 simp -implicitDefEqProofs[teE,Ae,D9]
theorem Au5 (ks:List Kd) (s:Sm) (l:List Cn) (t:Te) (hA:PkA ks s l t) (hok:Gq ks s l t=true) (o:Te) (e:Int) (he:e≠0) (hs:Ab Tryz.prog Ja [Ae t,.int .i64 0,.int .i64 0] [] (teE (o,e)) []):Ab Tryz.prog Gj [Aw ks s,.sl .none (l.map Ai),Ae t] [] (teE (Bv,e)) []:=by
 have h1:=Ka s hA.s
 have hp:=Lk s
 have h2:=Mt ks
 have h3:=(I3 t hA.t).1
 have h5:=Ir l (fun x=>!A6 x) Ke fun x hx=>Pf x (hA.l x hx)
 rw[Hg] at h5
 unfold Gq at hok
 simp only[Bool.and_eq_true,decide_eq_true_eq] at hok
 obtain⟨⟨⟨⟨k1,k2⟩,k3⟩,hl⟩,k5⟩:=hok
 rw[k2] at h2
 rw[k3] at h3
 rw[k5] at h5
 have hz: ¬Di s=0:=fun h=>by have:=hp.1 h;rw[k1] at this;cases this
 have hz':(Di s == 0)=false:=by simpa using hz
 have hl':(l.length:Int)=(ks.length:Int):=by omega
 generalize Di s=z at h1 hz hz'
 have he':(e != 0)=true:=by simpa using he
 refine Ab.go mixed J7 (by simp) fun hfit Q hQ=>?_
 clear hfit
 simp -implicitDefEqProofs[Gz,Aw,Ae,Ak s,Aj t]
 refine Ah (h1) (by simp) (by simp) (by simp[Ag,Aa,Ac,Al,Af,Kd.l,An,Ak,Ae,Aj]) ?_
 simp -implicitDefEqProofs[hz,hz']
 refine Ah (h2) (by simp) (by simp) (by simp[Ag,Aa,Ac,Al,Af,Kd.l,An,Ak,Ae,Aj]) ?_
 simp -implicitDefEqProofs 
 refine Ah (h3) (by simp) (by simp) (by simp[Ag,Aa,Ac,Al,Af,Kd.l,An,Ak,Ae,Aj]) ?_
 simp -implicitDefEqProofs[hl,hl']
 refine Ah (h5) (by simp) (by simp) (by simp[Ag,Aa,Ac,Al,Af,Kd.l,An,Ak,Ae,Aj]) ?_
 simp -implicitDefEqProofs 
 refine Ah hs (by simp) (Ex _ 0) (by simp[Ae,Aj t]) ?_
 simp -implicitDefEqProofs[teE,Ae,Aj o,he,he']
 refine hQ _ _ _ ?_
 simp -implicitDefEqProofs[teE,Ae,D9]
theorem pack_abs (ks:List Kd) (s:Sm) (l:List Cn) (t:Te) (hA:PkA ks s l t) (hok:Gq ks s l t=true) (o:Te) (hs:Ab Tryz.prog Ja [Ae t,.int .i64 0,.int .i64 0] [] (teE (o,0)) []) (c:Cn) (e:Int) (he:e≠0) (hc:Ab Tryz.prog Jy [Aw ks s] [] (cnE (c,e)) []):Ab Tryz.prog Gj [Aw ks s,.sl .none (l.map Ai),Ae t] [] (teE (Bv,e)) []:=by
 have h1:=Ka s hA.s
 have hp:=Lk s
 have h2:=Mt ks
 have h3:=(I3 t hA.t).1
 have h5:=Ir l (fun x=>!A6 x) Ke fun x hx=>Pf x (hA.l x hx)
 rw[Hg] at h5
 unfold Gq at hok
 simp only[Bool.and_eq_true,decide_eq_true_eq] at hok
 obtain⟨⟨⟨⟨k1,k2⟩,k3⟩,hl⟩,k5⟩:=hok
 rw[k2] at h2
 rw[k3] at h3
 rw[k5] at h5
 have hz: ¬Di s=0:=fun h=>by have:=hp.1 h;rw[k1] at this;cases this
 have hz':(Di s == 0)=false:=by simpa using hz
 have hl':(l.length:Int)=(ks.length:Int):=by omega
 generalize Di s=z at h1 hz hz'
 have he':(e != 0)=true:=by simpa using he
 refine Ab.go mixed J7 (by simp) fun hfit Q hQ=>?_
 clear hfit
 simp -implicitDefEqProofs[Gz,Aw,Ae,Ak s,Aj t]
 refine Ah (h1) (by simp) (by simp) (by simp[Ag,Aa,Ac,Al,Af,Kd.l,An,Ak,Ae,Aj]) ?_
 simp -implicitDefEqProofs[hz,hz']
 refine Ah (h2) (by simp) (by simp) (by simp[Ag,Aa,Ac,Al,Af,Kd.l,An,Ak,Ae,Aj]) ?_
 simp -implicitDefEqProofs 
 refine Ah (h3) (by simp) (by simp) (by simp[Ag,Aa,Ac,Al,Af,Kd.l,An,Ak,Ae,Aj]) ?_
 simp -implicitDefEqProofs[hl,hl']
 refine Ah (h5) (by simp) (by simp) (by simp[Ag,Aa,Ac,Al,Af,Kd.l,An,Ak,Ae,Aj]) ?_
 simp -implicitDefEqProofs 
 refine Ah hs (by simp) (Ex _ 0) (by simp[Ae,Aj t]) ?_
 simp -implicitDefEqProofs[teE,Ae,Aj o]
 refine Ah hc (by simp[Aw]) (Co _ 0) (by simp[Aw,Ak s]) ?_
 simp -implicitDefEqProofs[cnE,Aa,Ac c,he,he']
 refine hQ _ _ _ ?_
 simp -implicitDefEqProofs[teE,Ae,D9]
theorem Ase (ks:List Kd) (s:Sm) (t:Te) (hA:PkA ks s [] t) (hok:Gq ks s [] t=true) (o:Te) (hs:Ab Tryz.prog Ja [Ae t,.int .i64 0,.int .i64 0] [] (teE (o,0)) []) (c:Cn) (hc:Ab Tryz.prog Jy [Aw ks s] [] (cnE (c,0)) []):Ab Tryz.prog Gj [Aw ks s,.sl .none (([]:List Cn).map Ai),Ae t] [] (teE (o,0)) []:=by
 obtain⟨l,hlz⟩: ∃l:List Cn,l=[]:=⟨_,rfl⟩
 rw[← hlz] at hA hok ⊢
 have h1:=Ka s hA.s
 have hp:=Lk s
 have h2:=Mt ks
 have h3:=(I3 t hA.t).1
 have h5:=Ir l (fun x=>!A6 x) Ke fun x hx=>Pf x (hA.l x hx)
 rw[Hg] at h5
 unfold Gq at hok
 simp only[Bool.and_eq_true,decide_eq_true_eq] at hok
 obtain⟨⟨⟨⟨k1,k2⟩,k3⟩,hl⟩,k5⟩:=hok
 rw[k2] at h2
 rw[k3] at h3
 rw[k5] at h5
 have hz: ¬Di s=0:=fun h=>by have:=hp.1 h;rw[k1] at this;cases this
 have hz':(Di s == 0)=false:=by simpa using hz
 have hl':(l.length:Int)=(ks.length:Int):=by omega
 generalize Di s=z at h1 hz hz'
 have hn:l.length=0:=by rw[hlz]; rfl
 have hn':(ks.length:Int)=0:=by omega
 have hn2:ks.length=0:=by omega
 refine Ab.go mixed J7 (by simp) fun hfit Q hQ=>?_
 clear hfit
 simp -implicitDefEqProofs[Gz,Aw,Ae,Ak s,Aj t]
 refine Ah (h1) (by simp) (by simp) (by simp[Ag,Aa,Ac,Al,Af,Kd.l,An,Ak,Ae,Aj]) ?_
 simp -implicitDefEqProofs[hz,hz']
 refine Ah (h2) (by simp) (by simp) (by simp[Ag,Aa,Ac,Al,Af,Kd.l,An,Ak,Ae,Aj]) ?_
 simp -implicitDefEqProofs 
 refine Ah (h3) (by simp) (by simp) (by simp[Ag,Aa,Ac,Al,Af,Kd.l,An,Ak,Ae,Aj]) ?_
 simp -implicitDefEqProofs[hl,hl']
 refine Ah (h5) (by simp) (by simp) (by simp[Ag,Aa,Ac,Al,Af,Kd.l,An,Ak,Ae,Aj]) ?_
 simp -implicitDefEqProofs 
 refine Ah hs (by simp) (Ex _ 0) (by simp[Ae,Aj t]) ?_
 simp -implicitDefEqProofs[teE,Ae,Aj o]
 refine Ah hc (by simp[Aw]) (Co _ 0) (by simp[Aw,Ak s]) ?_
 simp -implicitDefEqProofs[cnE,Aa,Ac c,hl,hl',hn,hn',hn2]
 refine hQ _ _ _ ?_
 simp -implicitDefEqProofs[teE,Ae,Aj o]
def H7:Nat→Cn→Prop
 | 0,_=>True
 | n+1,c=>c.op=10∧∃x r,c.l=x :: r∧H7 n x
theorem Am4: ∀(ks:List Kd) (c:Cn),H7 ks.length (Cq 10 ks c)
 | [],_=>trivial
 | k :: ks,c=>⟨rfl,_,[],rfl,Am4 ks c⟩
theorem Amv (L:Cn→Int→Cn): ∀(n:Nat) (c:Cn) (bd left:Int),H7 n c→0≤(reb L c bd left).2→H7 n (reb L c bd left).1
 | 0,_,_,_,_,_=>trivial
 | n+1,c,bd,left,⟨h1,x,r,h2,h3⟩,h=>by
   rw[Adh] at h ⊢
   split at h
   · simp at h
   · rename_i hl
     rw[if_neg hl]
     have ho: ¬(c.op=1∨c.op=2):=by omega
     rw[if_neg ho] at h ⊢
     simp only at h ⊢
     rw[h2,Ci] at h
     rw[h2,Ci]
     simp only at h ⊢
     refine⟨h1,_,_,rfl,Amv L n x _ _ h3 ?_⟩
     by_cases hn:(reb L x (Dn c.op bd) (left - 1)).2 < 0
     · have:=Z4 L r (Dn c.op bd) _ hn
       omega
     · omega
theorem Alc {n:Nat} {c:Cn} {l:List Cn} (h:(suM c l).2=0) (hn:H7 n c):H7 n (suM c l).1:=by
 unfold suM at h ⊢
 split at h
 · simp at h
 · rename_i h1
   rw[if_neg h1]
   split at h
   · simp at h
   · rename_i h2
     rw[if_neg h2]
     unfold F8 at h ⊢
     split at h
     · simp at h
     · rename_i h3
       rw[if_neg h3]
       exact Amv _ n c 0 20000 hn (by omega)
theorem Ax2 {ks:List Kd} {s:Sm} (h:(Jj ks s).2=0):H7 ks.length (Jj ks s).1∧Ap (Jj ks s).1≤20000:=by
 unfold Jj at h ⊢
 split at h
 · rename_i h1
   unfold chS at h ⊢
   split at h
   · rename_i h2;rw[if_pos h1,if_pos h2]; exact⟨Am4 ks _,Fp h2⟩
   · simp at h
 · rename_i h1;exact absurd h h1
def tyG:List Cn→Cn→Option (List Cn)
 | [],_=>some []
 | [_],c=>some [c]
 | x :: y :: r,c=>if (suM (c.l.headD Az) [x]).2=0 then (tyG (y :: r) (suM (c.l.headD Az) [x]).1).map (c :: ·) else none
theorem Ajk (x:Cn) (l:List Cn) (c:Cn) (h:l.length=0):tyG (x :: l) c=some [c]:=by
 cases l with
 | nil=>rfl
 | cons y r=>simp at h
theorem Am2 (x:Cn) (l:List Cn) (c:Cn) (h:0 < l.length):tyG (x :: l) c=if (suM (c.l.headD Az) [x]).2=0 then (tyG l (suM (c.l.headD Az) [x]).1).map (c :: ·) else none:=by
 cases l with
 | nil=>simp at h
 | cons y r=>rfl
theorem Ahv: ∀(l:List Cn) (c:Cn) (ts:List Cn),tyG l c=some ts→ts.length=l.length
 | [],_,ts,h=>by simp only[tyG,Option.some.injEq] at h;subst h;rfl
 | [_],_,ts,h=>by simp only[tyG,Option.some.injEq] at h;subst h;rfl
 | x :: y :: r,c,ts,h=>by
   rw[tyG] at h
   split at h
   · simp only[Option.map_eq_some_iff] at h
     obtain⟨u,h1,rfl⟩:=h
     simp[Ahv _ _ _ h1]
   · cases h
theorem Alz: ∀(l:List Cn) (c:Cn) (ts:List Cn),tyG l c=some ts→Ap c≤20000→∀x ∈ ts,Ap x≤20000
 | [],_,ts,h,_=>by simp only[tyG,Option.some.injEq] at h;subst h;simp
 | [_],_,ts,h,hc=>by simp only[tyG,Option.some.injEq] at h;subst h;simpa using hc
 | x :: y :: r,c,ts,h,hc=>by
   rw[tyG] at h
   split at h
   · simp only[Option.map_eq_some_iff] at h
     obtain⟨u,h1,rfl⟩:=h
     intro z hz
     rcases List.mem_cons.1 hz with rfl | hz
     · exact hc
     · exact Alz _ _ _ h1 (On _ _).1 z hz
   · cases h
theorem Apx [Cc] {e:TypeId} {P:Program} {H:List HB} (A G:List HB) (hH:H=A++G) {tok:Tok} {els:List (List AV)} {k:Nat} {row:List AV} {dst:Option Nat} {l:List AO} {kf:List Fr} {Q:Bg} {t:List AV} (h:owns A.length G tok els k) (hl:els.length+1≤A4) (hk:C0 k els=true) (hr:row.length=k)
 (hn: ∀tok' G',owns A.length G' tok' (els++[row]) k→(∀ (i:Nat) cs,G[i]? =some (.var cs)→G'[i]? =some (.var cs))→AR_ P l kf Q (Ax t dst (.sl tok' (els++[row]))) (A++G')):OPT P (C7 k e tok els [row] H) dst l kf Q t:=by
 subst hH
 have hk2:C0 k [row]=true:=by simp[C0,hr]
 rcases h with⟨rfl,rfl⟩ | ⟨j,e',rfl,hj⟩
 · have e1:C7 k e .nilT [] [row] (A++G)=some (.sl (.own (A++G).length) [row],A++(G++[.tok 1 k e])):=by
    simp[C7,hk,hk2,Ha,A4]
   rw[e1]
   refine hn _ _ (.inr ⟨G.length,e,by simp,by simp⟩) fun i cs hi=>?_
   rw[List.getElem?_append_left (List.getElem?_eq_some_iff.1 hi).1]; exact hi
 · have hjl:=(List.getElem?_eq_some_iff.1 hj).1
   have hg:(A++G)[A.length+j]? =some (.tok els.length k e'):=by
    rw[List.getElem?_append_right (by omega)]; simpa using hj
   have hset:(A++G).set (A.length+j) (.tok (els.length+1) k (if e'=e then e else 0))=A++G.set j (.tok (els.length+1) k (if e'=e then e else 0)):=by
    rw[List.set_append_right _ _ (by omega)]; simp
   have e1:C7 k e (.own (A.length+j)) els [row] (A++G)=some (.sl (.own (A.length+j)) (els++[row]),A++G.set j (.tok (els.length+1) k (if e'=e then e else 0))):=by
    simp only[C7,List.length_singleton,hl,hk,hk2,and_self,if_true,hg,hset]
   rw[e1]
   refine hn _ _ (.inr ⟨j,_,rfl,by simp[List.getElem?_set_self hjl]; rfl⟩) fun i cs hi=>?_
   have hne:j≠i:=fun e=>by subst e;rw[hj] at hi;cases hi
   rw[List.getElem?_set_ne hne]; exact hi
theorem keep5 {a b c d e f f':HB} {G:List HB} {i:Nat} {cs:List AV} (hb:(!decide (i=5))=true) (h:(a :: b :: c :: d :: e :: f :: G)[i]? =some (.var cs)):(a :: b :: c :: d :: e :: f' :: G)[i]? =some (.var cs):=by
 rcases i with _ | _ | _ | _ | _ | _ | i
 · exact h
 · exact h
 · exact h
 · exact h
 · exact h
 · simp at hb
 · simpa using h
def P5:AV→Bool
 | .ptr _ _=>true
 | _=>false
theorem Ap7 (b off:Nat):P5 (.ptr b off)=true:=rfl
def okV (x:AV):Bool:=x.strip.inScope 6 || P5 x
theorem Agv {t:List AV} (h:t.all okV=true) (i:Nat):okV (Aq t i)=true:=by
 unfold Aq
 rw[List.getD_eq_getElem?_getD]
 cases hx:t[i]? with
 | none=>rfl
 | some x=>exact List.all_eq_true.1 h x (List.mem_of_getElem? hx)
set_option maxHeartbeats 2000000 in
theorem Axw (ks:List Kd) (s:Sm) (l:List Cn) (t:Te) (hA:PkA ks s l t) (hok:Gq ks s l t=true) (o:Te) (hs:Ab Tryz.prog Ja [Ae t,.int .i64 0,.int .i64 0] [] (teE (o,0)) []) (c:Cn) (hc:Ab Tryz.prog Jy [Aw ks s] [] (cnE (c,0)) []) (hpos:0 < l.length) (hsz:Ap c≤20000) (hne:H7 l.length c) (hty:tyG l c=none):Ab Tryz.prog Gj [Aw ks s,.sl .none (l.map Ai),Ae t] [] (teE (Bv,6)) []:=by
 have h1:=Ka s hA.s
 have hp:=Lk s
 have h2:=Mt ks
 have h3:=(I3 t hA.t).1
 have h5:=Ir l (fun x=>!A6 x) Ke fun x hx=>Pf x (hA.l x hx)
 rw[Hg] at h5
 unfold Gq at hok
 simp only[Bool.and_eq_true,decide_eq_true_eq] at hok
 obtain⟨⟨⟨⟨k1,k2⟩,k3⟩,hl⟩,k5⟩:=hok
 rw[k2] at h2
 rw[k3] at h3
 rw[k5] at h5
 have hz: ¬Di s=0:=fun h=>by have:=hp.1 h;rw[k1] at this;cases this
 have hz':(Di s == 0)=false:=by simpa using hz
 have hl':(l.length:Int)=(ks.length:Int):=by omega
 generalize Di s=z at h1 hz hz'
 have hn: ¬ks.length=0:=by omega
 have hn': ¬(ks.length:Int)=0:=by omega
 have hn2: ¬l.length=0:=by omega
 have hkb:=hA.k
 refine Ab.go mixed J7 (by simp) fun hfit Q hQ=>?_
 clear hfit
 simp -implicitDefEqProofs[Gz,Aw,Ae,Ak s,Aj t]
 refine Ah (h1) (by simp) (by simp) (by simp[Ag,Aa,Ac,Al,Af,Kd.l,An,Ak,Ae,Aj]) ?_
 simp -implicitDefEqProofs[hz,hz']
 refine Ah (h2) (by simp) (by simp) (by simp[Ag,Aa,Ac,Al,Af,Kd.l,An,Ak,Ae,Aj]) ?_
 simp -implicitDefEqProofs 
 refine Ah (h3) (by simp) (by simp) (by simp[Ag,Aa,Ac,Al,Af,Kd.l,An,Ak,Ae,Aj]) ?_
 simp -implicitDefEqProofs[hl,hl']
 refine Ah (h5) (by simp) (by simp) (by simp[Ag,Aa,Ac,Al,Af,Kd.l,An,Ak,Ae,Aj]) ?_
 simp -implicitDefEqProofs 
 refine Ah hs (by simp) (Ex _ 0) (by simp[Ae,Aj t]) ?_
 simp -implicitDefEqProofs[teE,Ae,Aj o]
 refine Ah hc (by simp[Aw]) (Co _ 0) (by simp[Aw,Ak s]) ?_
 simp -implicitDefEqProofs[cnE,Aa,Ac c,hl,hl',hn,hn',hn2]
 refine B5 (AWp.loopI [5] (fun n f h G=>∃(k:Nat) (tok:Tok) (P:List Cn) (c:Cn),k < l.length∧k+n=l.length∧P.length=k∧f 70= .int .i64 k∧f 11= .sl tok (P.map Ai)∧owns 6 G tok (P.map Ai) 6∧h 5=Ai c∧Ap c≤20000∧H7 (l.length - k) c∧tyG (l.drop k) c=none) (l.length) (by simp) ⟨0,.nilT,[],c,hpos,by simp,rfl,rfl,rfl,E7 _ _ _,by simp[Dx,Ac c],hsz,hne,hty⟩ ?_)
 clear hty hne hsz hc
 rintro n f h G ⟨k,tok,P,c,hlt,hk,hP,h70,h11,hown,h5v,hsz,hne,hty⟩
 refine AWp.run mixed fun Q2 hQ2=>?_
 simp -implicitDefEqProofs[AC.dsts,Au,At,Bo,h70,h11,h5v]
 have hd':=List.drop_eq_getElem_cons hlt
 have hxz:=hA.l l[k] (List.getElem_mem _)
 rw[hd'] at hty
 obtain⟨x,hx0⟩: ∃x,l[k]=x:=⟨_,rfl⟩
 rw[hx0] at hxz hty
 have hw:=Ba (n:=(ks.length:Int) - 1) (by omega) (by omega)
 have hlt2:k < ks.length:=by omega
 simp -implicitDefEqProofs[hlt,hlt2,hx0,Ac x,Ac c,A1]
 refine Apx [_,_,_,_,_,_] (G++[_]) (by simp only[List.append_assoc,List.cons_append,List.nil_append]; rfl) (by simpa using E5 hown) (by simp[A4]; omega) (Ek _ _ Hs) (by simp) fun tok' G' hown' hG'=>?_
 have hx:=hG' G.length (Ai x) (by simp[Ac x])
 rw[Ac x] at hx
 have hsP:A0 6 (A5 (P.map Ai++[Ai c]))=true:=by rw[show P.map Ai++[Ai c]=(P++[c]).map Ai by simp,Yt]; exact Ak7 6 _
 rw[Ac c] at hsP
 clear hG'
 by_cases hk1:k+1=l.length
 · rw[Ajk x _ c (by simp;omega)] at hty
   cases hty
 · have hke:((k:Int)=(ks.length:Int) - 1)=False:=eq_false (by omega)
   rw[Am2 x _ c (by simp;omega)] at hty
   obtain⟨m,hm⟩: ∃m,l.length - k=m+1:=⟨l.length - k - 1,by omega⟩
   rw[hm] at hne
   obtain⟨ho,y,cr,hcl,hny⟩:=hne
   rw[hcl] at hty
   replace hty:(if (suM y [x]).2=0 then (tyG (l.drop (k+1)) (suM y [x]).1).map (c :: ·) else none)=none:=hty
   have hys:Ap y≤1000000000000:=by have:=Gp c;rw[hcl] at this;simp only[Bu] at this;omega
   have hsu:=T5 y [x] hys (fun z hz=>by simp only[List.mem_singleton] at hz;rw[hz]; exact hxz)
   have hsz2:=(On y [x]).1
   have hn2:=fun h=>Alc (n:=m) (l:=[x]) h hny
   obtain⟨q,hq⟩: ∃q,q=suM y [x]:=⟨_,rfl⟩
   rw[← hq] at hty hsu hsz2 hn2
   clear hq
   obtain⟨z,e⟩:=q
   simp only at hty hsz2 hn2
   have hclm:c.l.map Ai=Ai y :: cr.map Ai:=by rw[hcl]; rfl
   have hsP2:=hsP
   rw[hclm,Ac y] at hsP2
   have hcll:(c.l.map Ai).length=cr.length+1:=by rw[hcl]; simp
   simp -implicitDefEqProofs[hke,hw,hx,hl]
   refine Fe (fun b=>decide (b≠5)) [1] (by rfl) (by rfl) ?_
   simp -implicitDefEqProofs[hx,hclm,Ac y,Ac x,A1]
   refine Bp hsu (by simp) (Co _ 0) (by simp[Aa,Ac y,Ac x]) ?_
   simp -implicitDefEqProofs[cnE,Aa,Ac z]
   refine⟨fun b cs hb hh=>keep5 hb hh,?_⟩
   by_cases he0:e=0
   case neg=>
    have he0':(e != 0)=true:=by simpa using he0
    simp -implicitDefEqProofs[he0,he0']
    refine hQ2 _ _ _ (Dg ?_)
    show KR _ _ Q _ _
    simp -implicitDefEqProofs 
    refine hQ _ _ _ ?_
    simp -implicitDefEqProofs[teE,Ae,D9]
   subst he0
   rw[if_pos rfl] at hty
   have hn2:=hn2 rfl
   have hty2:tyG (l.drop (k+1)) z=none:=by simpa using hty
   simp -implicitDefEqProofs[Ba (n:=(k:Int)+1) (by omega) (by omega)]
   refine hQ2 _ _ _ (Cb (n - 1) (fun _=>Ai z) (G':=G') (by simp[Bo,Ac z]) (by omega) (by simp -implicitDefEqProofs[AC.dsts,Au,At,Aq]) ?_)
   exact⟨k+1,tok',P++[c],z,by omega,by omega,by simp[hP],by simp[Aq],by simp[Aq,Ac c,hcl,Ac y],by simpa[Ac c] using hown',rfl,hsz2,by rw[show l.length - (k+1)=m by omega]; exact hn2,hty2⟩
def pkH (ks:List Kd) (s:Sm) (l:List Cn) (t o:Te) (c:Cn):List HB:=[.var (.sl .none (ks.map Ao) :: B6 s),.var [.sl .none (l.map Ai)],.var (Bm t),.var Cw,.var (Bm o),.var (Ai c)]
def PkQ (ks:List Kd) (s:Sm) (l:List Cn) (t o:Te) (ts:List Cn) (x:AX) (u:List AV) (H:List HB):Prop:=
 x= .normal∧u.length=119∧u[4]? =some (.ptr 1 0)∧u[6]? =some (.ptr 3 0)∧u[8]? =some (.ptr 4 0)∧(∃ tok,u[11]? =some (.sl tok (ts.map Ai)))∧u.all okV=true∧∃c L,H=pkH ks s l t o c++L
def chop:Nat→AC→AC
 | 0,.seq a _=>a
 | n+1,.seq a b=>.seq a (chop n b)
 | _,c=>c
def pkPre:AC:=chop 8 Gz
set_option maxHeartbeats 4000000 in
theorem pack_pre (ks:List Kd) (s:Sm) (l:List Cn) (t:Te) (hA:PkA ks s l t) (hok:Gq ks s l t=true) (o:Te) (hs:Ab Tryz.prog Ja [Ae t,.int .i64 0,.int .i64 0] [] (teE (o,0)) []) (c:Cn) (hc:Ab Tryz.prog Jy [Aw ks s] [] (cnE (c,0)) []) (hpos:0 < l.length) (hsz:Ap c≤20000) (hne:H7 l.length c) (hlm:l.length≤1000) (ts:List Cn) (hty:tyG l c=some ts) (Q:Bg) (hQ: ∀x u H,PkQ ks s l t o ts x u H→Q x u H):
 WP Tryz.prog pkPre [] Q (start [Aw ks s,.sl .none (l.map Ai),Ae t] 119) []:=by
 have h1:=Ka s hA.s
 have hp:=Lk s
 have h2:=Mt ks
 have h3:=(I3 t hA.t).1
 have h5:=Ir l (fun x=>!A6 x) Ke fun x hx=>Pf x (hA.l x hx)
 rw[Hg] at h5
 unfold Gq at hok
 simp only[Bool.and_eq_true,decide_eq_true_eq] at hok
 obtain⟨⟨⟨⟨k1,k2⟩,k3⟩,hl⟩,k5⟩:=hok
 rw[k2] at h2
 rw[k3] at h3
 rw[k5] at h5
 have hz: ¬Di s=0:=fun h=>by have:=hp.1 h;rw[k1] at this;cases this
 have hz':(Di s == 0)=false:=by simpa using hz
 have hl':(l.length:Int)=(ks.length:Int):=by omega
 generalize Di s=z at h1 hz hz'
 have hn: ¬ks.length=0:=by omega
 have hn': ¬(ks.length:Int)=0:=by omega
 have hn2: ¬l.length=0:=by omega
 have hkb:=hA.k
 simp -implicitDefEqProofs[pkPre,chop,Gz,Aw,Ae,Ak s,Aj t]
 refine Ah (h1) (by simp) (by simp) (by simp[Ag,Aa,Ac,Al,Af,Kd.l,An,Ak,Ae,Aj]) ?_
 simp -implicitDefEqProofs[hz,hz']
 refine Ah (h2) (by simp) (by simp) (by simp[Ag,Aa,Ac,Al,Af,Kd.l,An,Ak,Ae,Aj]) ?_
 simp -implicitDefEqProofs 
 refine Ah (h3) (by simp) (by simp) (by simp[Ag,Aa,Ac,Al,Af,Kd.l,An,Ak,Ae,Aj]) ?_
 simp -implicitDefEqProofs[hl,hl']
 refine Ah (h5) (by simp) (by simp) (by simp[Ag,Aa,Ac,Al,Af,Kd.l,An,Ak,Ae,Aj]) ?_
 simp -implicitDefEqProofs 
 refine Ah hs (by simp) (Ex _ 0) (by simp[Ae,Aj t]) ?_
 simp -implicitDefEqProofs[teE,Ae,Aj o]
 refine Ah hc (by simp[Aw]) (Co _ 0) (by simp[Aw,Ak s]) ?_
 simp -implicitDefEqProofs[cnE,Aa,Ac c,hl,hl',hn,hn',hn2]
 refine B5 (AWp.loopI [5] (fun n f h G=>∃(k:Nat) (tok:Tok) (P:List Cn) (c:Cn),k < l.length∧k+n=l.length∧P.length=k∧f 70= .int .i64 k∧f 11= .sl tok (P.map Ai)∧owns 6 G tok (P.map Ai) 6∧h 5=Ai c∧Ap c≤20000∧H7 (l.length - k) c∧(∃ r,tyG (l.drop k) c=some r∧P++r=ts)∧∀i,okV (f i)=true) (l.length) (by simp) ⟨0,.nilT,[],c,hpos,by simp,rfl,rfl,rfl,E7 _ _ _,by simp[Dx,Ac c],hsz,hne,⟨ts,hty,rfl⟩,Agv (by simp[okV,P5])⟩ ?_)
 clear hty hne hsz hc
 rintro n f h G ⟨k,tok,P,c,hlt,hk,hP,h70,h11,hown,h5v,hsz,hne,⟨r,hty,hPr⟩,hall⟩
 have hall2: ∀i,(f i).strip.inScope 6=true∨P5 (f i)=true:=fun i=>by simpa[okV] using hall i
 refine AWp.run mixed fun Q2 hQ2=>?_
 simp -implicitDefEqProofs[AC.dsts,Au,At,Bo,h70,h11,h5v]
 have hd':=List.drop_eq_getElem_cons hlt
 have hxz:=hA.l l[k] (List.getElem_mem _)
 rw[hd'] at hty
 obtain⟨x,hx0⟩: ∃x,l[k]=x:=⟨_,rfl⟩
 rw[hx0] at hxz hty
 have hw:=Ba (n:=(ks.length:Int) - 1) (by omega) (by omega)
 have hlt2:k < ks.length:=by omega
 simp -implicitDefEqProofs[hlt,hlt2,hx0,Ac x,Ac c,A1]
 refine Apx [_,_,_,_,_,_] (G++[_]) (by simp only[List.append_assoc,List.cons_append,List.nil_append]; rfl) (by simpa using E5 hown) (by simp[A4]; omega) (Ek _ _ Hs) (by simp) fun tok' G' hown' hG'=>?_
 have hx:=hG' G.length (Ai x) (by simp[Ac x])
 rw[Ac x] at hx
 have hsP:A0 6 (A5 (P.map Ai++[Ai c]))=true:=by rw[show P.map Ai++[Ai c]=(P++[c]).map Ai by simp,Yt]; exact Ak7 6 _
 rw[Ac c] at hsP
 clear hG'
 by_cases hk1:k+1=l.length
 · have hke:((k:Int)=(ks.length:Int) - 1)=True:=eq_true (by omega)
   rw[Ajk x _ c (by simp;omega)] at hty
   simp only[Option.some.injEq] at hty
   subst hty
   simp -implicitDefEqProofs[hke,hw,hx,hl]
   refine hQ2 _ _ _ (Ce ?_)
   show KE _ 0 _ Q _ _
   simp -implicitDefEqProofs 
   refine hQ _ _ _ ⟨rfl,rfl,rfl,rfl,rfl,⟨tok',by simp[← hPr,Ac c]⟩,?_,c,G',by simp[pkH,Cw,Ak s,Aj t,Aj o,Ac c]⟩
   simp[okV,Ap7,hall2,hsP]
 · have hke:((k:Int)=(ks.length:Int) - 1)=False:=eq_false (by omega)
   rw[Am2 x _ c (by simp;omega)] at hty
   obtain⟨m,hm⟩: ∃m,l.length - k=m+1:=⟨l.length - k - 1,by omega⟩
   rw[hm] at hne
   obtain⟨ho,y,cr,hcl,hny⟩:=hne
   rw[hcl] at hty
   replace hty:(if (suM y [x]).2=0 then (tyG (l.drop (k+1)) (suM y [x]).1).map (c :: ·) else none)=some r:=hty
   have hys:Ap y≤1000000000000:=by have:=Gp c;rw[hcl] at this;simp only[Bu] at this;omega
   have hsu:=T5 y [x] hys (fun z hz=>by simp only[List.mem_singleton] at hz;rw[hz]; exact hxz)
   have hsz2:=(On y [x]).1
   have hn2:=fun h=>Alc (n:=m) (l:=[x]) h hny
   obtain⟨q,hq⟩: ∃q,q=suM y [x]:=⟨_,rfl⟩
   rw[← hq] at hty hsu hsz2 hn2
   clear hq
   obtain⟨z,e⟩:=q
   simp only at hty hsz2 hn2
   have hclm:c.l.map Ai=Ai y :: cr.map Ai:=by rw[hcl]; rfl
   have hsP2:=hsP
   rw[hclm,Ac y] at hsP2
   have hcll:(c.l.map Ai).length=cr.length+1:=by rw[hcl]; simp
   simp -implicitDefEqProofs[hke,hw,hx,hl]
   refine Fe (fun b=>decide (b≠5)) [1] (by rfl) (by rfl) ?_
   simp -implicitDefEqProofs[hx,hclm,Ac y,Ac x,A1]
   refine Bp hsu (by simp) (Co _ 0) (by simp[Aa,Ac y,Ac x]) ?_
   simp -implicitDefEqProofs[cnE,Aa,Ac z]
   refine⟨fun b cs hb hh=>keep5 hb hh,?_⟩
   by_cases he0:e=0
   case neg=>
    rw[if_neg he0] at hty
    cases hty
   subst he0
   rw[if_pos rfl] at hty
   have hn2:=hn2 rfl
   simp only[Option.map_eq_some_iff] at hty
   obtain⟨r2,hty2,hr2⟩:=hty
   subst hr2
   simp -implicitDefEqProofs[Ba (n:=(k:Int)+1) (by omega) (by omega)]
   refine hQ2 _ _ _ (Cb (n - 1) (fun _=>Ai z) (G':=G') (by simp[Bo,Ac z]) (by omega) (by simp -implicitDefEqProofs[AC.dsts,Au,At,Aq]) ?_)
   exact⟨k+1,tok',P++[c],z,by omega,by omega,by simp[hP],by simp[Aq],by simp[Aq,Ac c,hcl,Ac y],by simpa[Ac c] using hown',rfl,hsz2,by rw[show l.length - (k+1)=m by omega]; exact hn2,⟨r2,hty2,by simpa using hPr⟩,Agv (by simp[okV,Ap7,hall2,hsP2])⟩
end Go.Proofs.YtemdkfnenjpioaaGreatDoor
namespace Go.Proofs.YtemdkfnenjpioaaGreatDoor
open Go
attribute [local simp] Ar aev Ax A7 start AV.cells AV.undef Bc Be Bh Bl Bj AV.isCell Bf A1 Bi
attribute [local simp] fin A9 A8 Bb AV.strip Ay A5 AV.inScope Am A0 As
theorem Cy.seq {P:Program} {ro:Option Nat} {n:Nat} {x y:AC} {t:List AV} {H:List HB} {Q:AX→List AV→List HB→Prop} (h:Cy P ro n x t H (Lp (fun t' H'=>Cy P ro n y t' H' Q) Q)):Cy P ro n (.seq x y) t H Q:=by
 intro c hc F g w a hs
 obtain⟨ca,cb,rfl,c1,c2⟩:=Vw hc
 refine wpIn_seq (wpIn_mono (h _ c1 F g w a hs) ?_)
 rintro e a' w' ⟨x,t',H',F',g',rfl,hq,hs',hx⟩
 cases x with
 | normal=>
   simp only[AX.to,Exit.then]
   refine wpIn_mono (hq _ c2 F' g' w' a' hs') ?_
   rintro e2 a2 w2 ⟨x2,t2,H2,F2,g2,rfl,q1,q2,q3⟩
   exact⟨x2,t2,H2,F2,g2,rfl,q1,q2,hx.trans q3⟩
 | exit id=>exact⟨.exit id,t',H',F',g',rfl,hq,hs',hx⟩
 | ret=>exact⟨.ret,t',H',F',g',rfl,hq,hs',hx⟩
theorem Cy.regR {P:Program} {ro:Option Nat} {n:Nat} {ops:List AO} {t:List AV} {H:List HB} {Q:AX→List AV→List HB→Prop} (h:AR_ P ops [] (fun _ t' H'=>Q .normal t' H') t H):Cy P ro n (.region ops) t H Q:=Cy.region (Hu h)
theorem Cy.seqR {P:Program} {ro:Option Nat} {n:Nat} {ops:List AO} {y:AC} {t:List AV} {H:List HB} {Q:AX→List AV→List HB→Prop} (h:AR_ P ops [] (fun _ t' H'=>Cy P ro n y t' H' Q) t H):Cy P ro n (.seq (.region ops) y) t H Q:=Cy.seq (Cy.regR h)
theorem Kf {u:List AV} {i:Nat} {x:AV} (h:u[i]? =some x): ∀h',u[i]'h'=x:=fun h'=>by
 rw[List.getElem?_eq_getElem h'] at h
 exact Option.some.inj h
def wkV (x:AV):AV:=if x.strip.inScope 6=true then x.strip else .eptr []
theorem Atp (x:AV):(wkV x).inScope 6=true:=by
 unfold wkV
 split
 · assumption
 · rfl
theorem wkV_R {F:Addr→Prop} {g:Gh} {w:World} {x:AV} {v:Value} (hx:okV x=true) (h:R F g w x v):R F g w (wkV x) v:=by
 unfold wkV
 split
 · exact Mu x v h
 · rename_i hn
   have hp:P5 x=true:=by simpa[okV,hn] using hx
   cases x<;>simp only[P5,Bool.false_eq_true] at hp
   obtain⟨B,_,_,rfl⟩:=E9 h
   simp only[R]
   exact⟨B,_,rfl,trivial⟩
theorem wkV_RL {F:Addr→Prop} {g:Gh} {w:World} : ∀{t:List AV} {vs:List Value},t.all okV=true→RL F g w t vs→RL F g w (t.map wkV) vs
 | [],vs,_,h=>h
 | x :: t,vs,hx,h=>by
   simp only[List.all_cons,Bool.and_eq_true] at hx
   simp only[RL] at h
   obtain⟨v,r,rfl,h1,h2⟩:=h
   simp only[List.map_cons,RL]
   exact⟨v,r,rfl,wkV_R hx.1 h1,wkV_RL hx.2 h2⟩
theorem Aht (n:Nat) (t:List AV) (hn:n=6):Am n (t.map wkV)=true:=by
 subst hn
 induction t with
 | nil=>rfl
 | cons x t ih=>simp only[List.map_cons,Am,Atp,ih,Bool.and_self]
def pkB:AC:=.region [⟨some 98,.mov (.tmp 11),none⟩,⟨some 99,.call (.cst (.fn (.func Vs) [] [])) [.tmp 98],none⟩]
def pkAs:AC:=.seq (.region [⟨(some 14),(.mov (.tmp 100)),none⟩])
 (.region [⟨(some 15),(.alloc [(.int .i64 0),(.int .i64 0),(.str []),(.sl .nilT []),(.sl .nilT []),(.sl .nilT [])]),none⟩,⟨none,(.store 6 (.tmp 15) (.tmp 101)),none⟩])
def pkBd:AC:=(.seq (.region [⟨(some 103),(.load false 1 (.tmp 4)),none⟩,⟨(some 104),(.mov (.tmp 14)),none⟩,⟨(some 105),(.iaddr 6 (.tmp 103) (.tmp 104)),none⟩,⟨(some 106),(.load true 6 (.tmp 105)),none⟩,⟨(some 107),(.call (.cst (.fn (.func Fg) [] [])) [(.tmp 106),(.cst (.int .i64 0)),(.cst (.int .i64 0))]),none⟩,⟨(some 102),(.mov (.tmp 107)),none⟩,⟨(some 108),(.extract (.tmp 102) 0),none⟩,⟨(some 109),(.extract (.tmp 102) 1),none⟩,⟨(some 16),(.alloc [(.int .i64 0),(.int .i64 0),(.str []),(.sl .nilT []),(.sl .nilT []),(.sl .nilT [])]),none⟩,⟨none,(.store 6 (.tmp 16) (.tmp 108)),none⟩,⟨(some 17),(.mov (.tmp 109)),none⟩])
    (.region [⟨(some 110),(.load true 6 (.tmp 16)),none⟩,⟨(some 111),(.load true 6 (.tmp 15)),none⟩,⟨(some 112),(.load true 18 (.tmp 8)),none⟩,⟨(some 113),(.buildSl 18 [(.int .i64 0),(.int .i64 0),(.str []),(.int .i64 0),(.int .i64 0),(.str []),(.sl .nilT []),(.sl .nilT []),(.sl .nilT []),(.int .i64 0),(.int .i64 0),(.str []),(.sl .nilT []),(.sl .nilT []),(.sl .nilT []),(.sl .nilT []),(.sl .nilT []),(.sl .nilT [])] 1 [(0,(.tmp 112))]),none⟩,⟨(some 114),(.build [(.int .i64 0),(.int .i64 0),(.str []),(.int .i64 0),(.int .i64 0),(.str []),(.sl .nilT []),(.sl .nilT []),(.sl .nilT []),(.int .i64 0),(.int .i64 0),(.str []),(.sl .nilT []),(.sl .nilT []),(.sl .nilT []),(.sl .nilT []),(.sl .nilT []),(.sl .nilT [])] [(0,(1,(.cst (.int .i64 8)))),(3,(6,(.tmp 110))),(9,(6,(.tmp 111))),(17,(1,(.tmp 113)))]),none⟩,⟨none,(.store 18 (.tmp 8) (.tmp 114)),none⟩]))
def pkTl:List AO:=[⟨some 115,.load true 18 (.tmp 8),none⟩,⟨some 116,.call (.cst (.fn (.func Mr) [] [])) [.tmp 115],none⟩,⟨some 117,.extract (.tmp 116) 0,none⟩,⟨some 118,.extract (.tmp 116) 1,none⟩,⟨none,.store 18 (.tmp 6) (.tmp 117),none⟩,⟨some 7,.mov (.tmp 118),none⟩]
def pkS (ks:List Kd) (s:Sm) (l:List Cn) (t r o:Te) (c:Cn):List HB:=[.var (.sl .none (ks.map Ao) :: B6 s),.var [.sl .none (l.map Ai)],.var (Bm t),.var (Bm r),.var (Bm o),.var (Ai c)]
theorem U4 (n:Nat) (ks:List Kd) (s:Sm) (l:List Cn) (t r o:Te) (c:Cn):As n (pkS ks s l t r o c)=true:=by simp[pkS,As,Am,AV.inScope]
theorem Anj (ks:List Kd) (s:Sm) (l:List Cn) (t o:Te) (c:Cn):(pkH ks s l t o c).map Gr=pkS ks s l t Bv o c:=by
 simp[pkH,pkS,Gr,Ay,AV.strip,D9,Cw]
theorem Azo (ts:List Cn) (ks:List Kd) (s:Sm) (l:List Cn) (t r o:Te) (c:Cn):Ab Tryz.prog Vs [.sl .none (ts.map Ai)] (pkS ks s l t r o c) (.fn (.func Qj) [] [.ptr 6 0]) (pkS ks s l t r o c++[.var [.sl .none (ts.map Ai)]]):=by
 have hsc:=U4 7 ks s l t r o c
 refine Ab.go mixed Au8 (by simp) fun hfit Q hQ=>?_
 clear hfit
 have h6:(pkS ks s l t r o c).length=6:=rfl
 simp -implicitDefEqProofs[Ak6,h6]
 refine hQ _ _ _ ?_
 simp -implicitDefEqProofs[h6,Ei,hsc]
theorem Avp (ts:List Cn) (ks:List Kd) (s:Sm) (l:List Cn) (t r o:Te) (c:Cn) (u:List AV) (hl:u.length=119) (h11:u[11]? =some (.sl .none (ts.map Ai))):
 AWp Tryz.prog pkB u (pkS ks s l t r o c) (fun x u' H=>x= .normal∧u'=(u.set 98 (.sl .none (ts.map Ai))).set 99 (.fn (.func Qj) [] [.ptr 6 0])∧H=pkS ks s l t r o c++[.var [.sl .none (ts.map Ai)]]):=by
 refine AWp.run mixed fun Q hQ=>?_
 have g11:=Kf h11
 simp -implicitDefEqProofs[pkB,g11,hl]
 refine Br (Azo ts ks s l t r o c) ?_
 simp -implicitDefEqProofs
 refine hQ _ _ _ ?_
 simp
theorem Aum {ro:Option Nat} {n:Nat} (ks:List Kd) (s:Sm) (l:List Cn) (t r o:Te) (c x:Cn) (i:Int) (u:List AV) (hl:u.length=119) (h1:u[100]? =some (.int .i64 i)) (h2:u[101]? =some (Aa x)):
 Cy Tryz.prog ro n pkAs u (pkS ks s l t r o c) (fun y u' H=>y= .normal∧u'=(u.set 14 (.int .i64 i)).set 15 (.ptr 6 0)∧H=pkS ks s l t r o c++[.var (Ai x)]):=by
 have g1:=Kf h1
 have g2:=Kf h2
 refine Cy.seqR ?_
 simp -implicitDefEqProofs[g1,hl]
 refine Cy.regR ?_
 simp -implicitDefEqProofs[g2,hl,Aa,Ac x,pkS]
def teP (x y:Cn) (o:Te):Te:=.mk 8 0 [] x y (.mk []) [] [o]
theorem pk_body {ro:Option Nat} {n:Nat} (ks:List Kd) (s:Sm) (l:List Cn) (t r o:Te) (c x:Cn) (i:Nat) (hi:i < l.length) (hz: ∀y ∈ l,Ap y≤1000000000000) (u:List AV) (hl:u.length=119) (h4:u[4]? =some (.ptr 1 0)) (h8:u[8]? =some (.ptr 4 0)) (h14:u[14]? =some (.int .i64 i)) (h15:u[15]? =some (.eptr (Ai x))):
 Cy Tryz.prog ro n pkBd u (pkS ks s l t r o c) (fun y _ H=>y= .normal∧∃cs L,H=[.var (.sl .none (ks.map Ao) :: B6 s),.var [.sl .none (l.map Ai)],.var (Bm t),.var (Bm r),.var cs,.var (Ai c)]++L∧Ay cs=Bm (teP (shS l[i] 0 0).1 x o)):=by
 have hsh:=Le l[i] 0 0 (hz _ (List.getElem_mem _)) (by omega) (by omega) (by omega) (by omega)
 generalize shS l[i] 0 0=p at hsh ⊢
 obtain⟨y,e⟩:=p
 have g4:=Kf h4
 have g8:=Kf h8
 have g14:=Kf h14
 have g15:=Kf h15
 refine Cy.seqR ?_
 simp -implicitDefEqProofs[g4,g8,g14,g15,hl,pkS,hi]
 refine Ah hsh (by simp) (Co _ 0) (by simp[Aa]) ?_
 simp -implicitDefEqProofs[cnE,Aa,Ac y,hl]
 refine Cy.regR ?_
 simp -implicitDefEqProofs[g4,g8,g14,g15,hl,Ac x,Aj o,Ac y,A1,teP,Tc]
 exact⟨rfl,rfl⟩
theorem teP_teB {x y:Cn} {o:Te} (h1:Ap x≤20000) (h2:Ap y≤20000) (h3:teB o):teB (teP x y o):=by
 rw[J1]
 refine⟨by show Ap x≤_;omega,by show Ap y≤_;omega,fun z hz=>?_⟩
 have hz:z ∈ [o]:=hz
 rw[List.mem_singleton.1 hz]; exact h3
theorem pk_last (ks:List Kd) (s:Sm) (l:List Cn) (t r o:Te) (c:Cn) (ho:teB o) (u:List AV) (hl:u.length=119) (h6:u[6]? =some (.ptr 3 0)) (h8:u[8]? =some (.ptr 4 0)):
 Du Tryz.prog pkTl u (pkS ks s l t r o c) (fun u' H=>u'.getD 6 .undef= .ptr 3 0∧u'.getD 7 .undef= .int .i64 (whE o).2∧H=pkS ks s l t (whE o).1 o c):=by
 have g6:=Kf h6
 have g8:=Kf h8
 have hw:=Ar0 o ho
 generalize whE o=p at hw ⊢
 obtain⟨z,e⟩:=p
 refine Hu ?_
 show AR_ _ _ [] (fun _ u' H=>u'.getD 6 .undef= .ptr 3 0∧u'.getD 7 .undef= .int .i64 e∧H=pkS ks s l t z o c) _ _
 simp -implicitDefEqProofs[pkTl,g6,g8,hl,pkS,Aj o]
 refine Ah hw (by simp) (Ex _ 0) (by simp[Ae,Aj o]) ?_
 simp -implicitDefEqProofs[teE,Ae,Aj z,g6,g8,hl,Aj r]
def restC:Nat→Code→Code
 | 0,.seq _ b=>b
 | n+1,.seq _ b=>restC n b
 | _,c=>c
def isSq:Nat→AC→Bool
 | 0,.seq _ _=>true
 | n+1,.seq _ b=>isSq n b
 | _,_=>false
theorem Aqq {P:Program} (hm:P.follows .mixedOrders=true) {m:Nat} : ∀(n:Nat) (c:Code) (ac:AC),B4 P c=some ac→isSq n ac=true→∀(Q:AX→List AV→List HB→Prop) (t:List AV) (H:List HB),wpc P (chop n ac) Q t H→∀(F:Addr→Prop) (g:Gh) (w:World) (a:Act),Sim P F g H w t a→
 ∀(QQ:Exit→Act→World→Prop),(∀ x t' H' F' g' a' w',Q x t' H'→Sim P F' g' H' w' t' a'→Ext F g H w F' g' H' w'→x= .normal∧(restC n c).wpIn Fence.wide m P QQ a' w')→c.wpIn Fence.wide m P QQ a w
 | 0,c,ac,hc,hsq,Q,t,H,h,F,g,w,a,hs,QQ,hK=>by
   cases ac<;>simp only[isSq,Bool.false_eq_true] at hsq
   obtain⟨ca,cb,rfl,c1,c2⟩:=Vw hc
   refine wpIn_seq (wpIn_mono (wpIn_wide.2 ((AWp.of hm h).det ca c1 F g w a hs)) ?_)
   rintro e a' w' ⟨x,t',H',F',g',rfl,hq,hs',hx⟩
   obtain⟨rfl,hk⟩:=hK x t' H' F' g' a' w' hq hs' hx
   exact hk
 | n+1,c,ac,hc,hsq,Q,t,H,h,F,g,w,a,hs,QQ,hK=>by
   cases ac<;>simp only[isSq,Bool.false_eq_true] at hsq
   rename_i x y
   obtain⟨ca,cb,rfl,c1,c2⟩:=Vw hc
   have h:wpc P x (Lp (fun t' H'=>wpc P (chop n y) Q t' H') Q) t H:=h
   refine wpIn_seq (wpIn_mono (wpIn_wide.2 ((AWp.of hm h).det ca c1 F g w a hs)) ?_)
   rintro e a' w' ⟨x,t',H',F',g',rfl,hq,hs',hx⟩
   cases x with
   | normal=>
     simp only[AX.to,Exit.then]
     exact Aqq hm n cb y c2 hsq Q t' H' hq F' g' w' a' hs' QQ fun x2 t2 H2 F2 g2 a2 w2 q1 q2 q3=>hK x2 t2 H2 F2 g2 a2 w2 q1 q2 (hx.trans q3)
   | exit id=>exact absurd (hK _ t' H' F' g' a' w' hq hs' hx).1 (by simp)
   | ret=>exact absurd (hK _ t' H' F' g' a' w' hq hs' hx).1 (by simp)
theorem pk_code: ∃(fn:Func) (cc b asg bdy tl:Code),Tryz.prog.funcs[49]? =some fn∧fn.body=some cc∧B4 Tryz.prog cc=some Gz∧restC 8 cc= .seq (.seq b (.block 2 (.rangeFunc (.tmp 99) #[100,101] asg (.block 3 bdy)))) (.seq tl .ret)∧
 B4 Tryz.prog b=some pkB∧B4 Tryz.prog asg=some pkAs∧B4 Tryz.prog bdy=some pkBd∧B4 Tryz.prog tl=some (.region pkTl)∧fn.ntmps=119∧Hb Tryz.prog fn.results.toList=some [.cell 6 true 18,.tmp 7]:=
 ⟨Tryz.f49,_,_,_,_,_,Tryz.func49,rfl,by kernel_rfl,rfl,by kernel_rfl,by kernel_rfl,by kernel_rfl,by kernel_rfl,by kernel_rfl,by kernel_rfl⟩
end Go.Proofs.YtemdkfnenjpioaaGreatDoor
namespace Go.Proofs.YtemdkfnenjpioaaGreatDoor
open Go Go.RowKit
attribute [local simp] Ar aev Ax A7 start AV.cells AV.undef Bc Be Bh Bl Bj AV.isCell Bf A1 Bi
attribute [local simp] fin A9 A8 Bb AV.strip Ay A5 AV.inScope Am A0 As
section
variable {F:Addr→Prop} {g:Gh} {w:World}
theorem Anc {B:Nat} : ∀(l:List Cn) (off:Nat),RE F g w B off 6 (l.map Ai)→∃ds:List V6,ds.length=l.length∧∀i c,l[i]? =some c→∃x,ds[i]? =some x∧RL F g w (Ai c) (Cs x)∧∀j u,(Cs x)[j]? =some u→F ⟨B,off+i * 6+j,none⟩∧w.cell? ⟨B,off+i * 6+j,none⟩=some u
 | [],_,_=>⟨[],rfl,fun i c h=>by simp at h⟩
 | c :: l,off,h=>by
   simp only[List.map_cons,RE] at h
   obtain⟨_,h1,h2⟩:=h
   obtain⟨ds,e1,e2⟩:=Anc l (off+6) h2
   rw[Ac] at h1
   simp only[RM] at h1
   obtain⟨⟨_,v0,k0,c0,r0⟩,⟨_,v1,k1,c1,r1⟩,⟨_,v2,k2,c2,r2⟩,⟨_,v3,k3,c3,r3⟩,⟨_,v4,k4,c4,r4⟩,⟨_,v5,k5,c5,r5⟩, -⟩:=h1
   refine⟨⟨v0,v1,v2,v3,v4,v5,U6 r0,U6 r1,An0 r2,Qa r3,Qa r4,Qa r5⟩ :: ds,by simp[e1],fun i c' hi=>?_⟩
   cases i with
   | zero=>
     simp only[List.getElem?_cons_zero,Option.some.injEq] at hi
     subst hi
     refine⟨_,rfl,?_,fun j u hj=>?_⟩
     · rw[Ac]
       exact⟨_,_,rfl,r0,_,_,rfl,r1,_,_,rfl,r2,_,_,rfl,r3,_,_,rfl,r4,_,_,rfl,r5,rfl⟩
     · match j,hj with
       | 0,hj=>cases hj;exact⟨by simpa using k0,by simpa using c0⟩
       | 1,hj=>cases hj;exact⟨by simpa using k1,by simpa using c1⟩
       | 2,hj=>cases hj;exact⟨by simpa using k2,by simpa using c2⟩
       | 3,hj=>cases hj;exact⟨by simpa using k3,by simpa using c3⟩
       | 4,hj=>cases hj;exact⟨by simpa using k4,by simpa using c4⟩
       | 5,hj=>cases hj;exact⟨by simpa using k5,by simpa using c5⟩
       | j+6,hj=>simp[Cs] at hj
   | succ i=>
     obtain⟨x,q1,q2,q3⟩:=e2 i c' (by simpa using hi)
     refine⟨x,by simpa using q1,q2,fun j u hj=>?_⟩
     have:=q3 j u hj
     rwa [show off+6+i * 6+j=off+(i+1) * 6+j by omega] at this
end
theorem Auz (ts:List Cn) (hpos:0 < ts.length) (hln:ts.length≤1073741824) (FS:Addr→Prop) (g:Gh) (w:World) (B:Nat) (hFS: ∀a,FS a→a.block < w.heap.size) (sv:Value) (hB:FS ⟨B,0,none⟩) (hc:w.cell? ⟨B,0,none⟩=some sv) (hr:R FS g w (.sl .none (ts.map Ai)) sv):
 ∃zs:Fin ts.length→Value,(∀ x:Fin ts.length,R FS g w (Aa ts[x.val]) (zs x))∧SeqStopsK Fence.wide 2 Tryz.prog 158 #[.pointer (some ⟨B,0,none⟩)] (fun x:Fin ts.length=>#[.int .i64 x.val,zs x]) (fun W W'=>∀a,FS a→W'.cell? a=W.cell? a)
  (fun xs=>xs.map (fun x=>x.val)=(List.range ts.length).reverse) (fun _=>True) ts.length w:=by
 obtain⟨_,h⟩:=Ep hr
 rcases h with⟨h1,_⟩ | ⟨b,off,sp,cap,k,rfl,h2,⟨hk,h1 | rfl⟩,h3,_⟩
 · have:ts=[]:=by simpa using h1
   subst this;simp at hpos
 · have:ts=[]:=by simpa using h1
   subst this;simp at hpos
 have hk6:k=6:=by
  cases ts with
  | nil=>simp at hpos
  | cons c l=>simp only[List.map_cons,RE] at h3;simpa using h3.1.symm
 subst hk6
 obtain⟨ds,hd,hds⟩:=Anc ts off h3
 let z:Nat→V6:=fun k=>ds.getD k default
 have hz: ∀k (hk:k < ts.length),RL FS g w (Ai ts[k]) (Cs (z k))∧∀j u,(Cs (z k))[j]? =some u→FS ⟨b,off+k * 6+j,none⟩∧w.cell? ⟨b,off+k * 6+j,none⟩=some u:=fun k hk=>by
  obtain⟨x,e1,e2,e3⟩:=hds k ts[k] (by simp[hk])
  have:z k=x:=by show ds.getD k default=x;rw[List.getD_eq_getElem?_getD,e1]; rfl
  rw[this]; exact⟨e2,e3⟩
 let el:Nat→Fin ts.length:=fun k=>⟨k % ts.length,Nat.mod_lt _ hpos⟩
 have hel: ∀k,k < ts.length→(el k).val=k:=fun k hk=>Nat.mod_eq_of_lt hk
 refine⟨fun x=>.agg #[(z x.val).a,(z x.val).b,(z x.val).c,(z x.val).d,(z x.val).e,(z x.val).f],fun x=>?_,?_⟩
 · simp only[Aa,R]
   exact⟨_,rfl,(hz x.val x.isLt).1⟩
 intro l J Jx W hW _ _ hY h0
 have hcell: ∀a,FS a→W.cell? a=w.cell? a:=fun a ha=>Fs (hW.block _ (hFS a ha))
 have hc':=(hcell _ hB).trans hc
 simp only[List.length_map] at hc' h2
 refine (backc_in (fun x:Fin ts.length=>#[.int .i64 x.val,.agg #[(z x.val).a,(z x.val).b,(z x.val).c,(z x.val).d,(z x.val).e,(z x.val).f]]) el z (fun W W'=>∀a,FS a→W'.cell? a=W.cell? a) Fence.wide 2 trivial rfl (by omega) l B b off ts.length cap hln
  (fun k hk=>by simp only[hel k hk]) (fun W W' h=>h _ hB) (fun W W' k i hk hi h=>h _ ?_) J Jx hY W hc' (fun j i u hj hu=>?_) h0).mono ?_
 · obtain⟨u,hu⟩: ∃u,(Cs (z k))[i]? =some u:=⟨_,List.getElem?_eq_getElem (by rw[Ta]; exact hi)⟩
   exact ((hz k hk).2 i u hu).1
 · have:=(hz j hj).2 i u hu
   rw[hcell _ this.1]; exact this.2
 · rintro e W' ⟨he,⟨ys,rfl,hj⟩ | ⟨pre,hj⟩⟩
   · refine⟨he,.inl ⟨_,?_,hj⟩⟩
     apply List.ext_getElem
     · simp[Gl]
     · intro i h1 h2
       have hi:i < ts.length:=by simpa[Gl] using h1
       simp only[Gl,List.map_map,List.getElem_map,List.getElem_range,Function.comp,List.getElem_reverse,List.length_range]
       rw[hel _ (by omega)]
   · exact⟨he,.inr ⟨pre,trivial,hj⟩⟩
theorem Axt (x:Array Value) (v u:Value):((#[100,101]:Array Tmp).zip #[v,u]).foldl (fun t (p,v)=>t.setIfInBounds p v) x=(x.setIfInBounds 100 v).setIfInBounds 101 u:=by
 simp
def pkT (l ts:List Cn) (is:List Nat) (o:Te):Te:=is.foldl (fun o i=>teP (shS (l.getD i Az) 0 0).1 (ts.getD i Az) o) o
theorem pkT_snoc (l ts:List Cn) (is:List Nat) (i:Nat) (o:Te):pkT l ts (is++[i]) o=teP (shS (l.getD i Az) 0 0).1 (ts.getD i Az) (pkT l ts is o):=by simp[pkT]
theorem Agy (l ts:List Cn) (hts: ∀x ∈ ts,Ap x≤20000): ∀(is:List Nat) (o:Te),teB o→teB (pkT l ts is o)
 | [],_,h=>h
 | i :: is,o,h=>by
   show teB (pkT l ts is (teP (shS (l.getD i Az) 0 0).1 (ts.getD i Az) o))
   refine Agy l ts hts is _ (teP_teB Sd ?_ h)
   rw[List.getD_eq_getElem?_getD]
   cases hx:ts[i]? with
   | none=>show Ap Az≤_;decide
   | some x=>exact hts x (List.mem_of_getElem? hx)
theorem Nh (ks:List Kd) (s:Sm) (l:List Cn) (t r o:Te) (c:Cn):Qh (pkS ks s l t r o c):=by
 intro b m h
 match b,h with
 | 0,h=>cases h
 | 1,h=>cases h
 | 2,h=>cases h
 | 3,h=>cases h
 | 4,h=>cases h
 | 5,h=>cases h
 | b+6,h=>simp[pkS] at h
theorem Aa6 (ks:List Kd) (s:Sm) (l:List Cn) (t r o:Te) (c:Cn) {b:Nat} (h:b < 6): ∃cs,(pkS ks s l t r o c)[b]? =some (.var cs):=by
 match b,h with
 | 0,_=>exact⟨_,rfl⟩
 | 1,_=>exact⟨_,rfl⟩
 | 2,_=>exact⟨_,rfl⟩
 | 3,_=>exact⟨_,rfl⟩
 | 4,_=>exact⟨_,rfl⟩
 | 5,_=>exact⟨_,rfl⟩
theorem Ve (ks:List Kd) (s:Sm) (l:List Cn) (t r o:Te) (c:Cn) {b:Nat} {x:HB} (h:(pkS ks s l t r o c)[b]? =some x): ∃cs,x= .var cs:=by
 rcases Nat.lt_or_ge b 6 with hb | hb
 · obtain⟨cs,hcs⟩:=Aa6 ks s l t r o c hb
   rw[h] at hcs;cases hcs;exact⟨cs,rfl⟩
 · rw[List.getElem?_eq_none (by simpa[pkS] using hb)] at h;cases h
theorem T0 {F:Addr→Prop} {g:Gh} {w:World} {ks:List Kd} {s:Sm} {l:List Cn} {t r o:Te} {c:Cn} (hs:St F g (pkS ks s l t r o c) w): ∀b,g.tk b=none:=by
 intro b
 rcases Nat.lt_or_ge b 6 with h | h
 · obtain⟨cs,hcs⟩:=Aa6 ks s l t r o c h
   obtain⟨_,_,_,_,h2,_⟩:=hs.var b cs hcs
   exact h2
 · exact (hs.beyond b (by simpa[pkS] using h)).2
theorem App {F:Addr→Prop} {g:Gh} {w:World} {ks:List Kd} {s:Sm} {l:List Cn} {t r o:Te} {c:Cn} (hs:St F g (pkS ks s l t r o c) w) {b:Nat} (h:b < 6): ∃B,g.blk b=some B∧∀off,¬F ⟨B,off,none⟩:=by
 obtain⟨cs,hcs⟩:=Aa6 ks s l t r o c h
 obtain⟨B,_,_,h1,_,_,_,h5⟩:=hs.var b cs hcs
 exact⟨B,h1,h5⟩
theorem A2x (ks:List Kd) (s:Sm) (l:List Cn) (t o:Te) (c:Cn):As (pkH ks s l t o c).length (pkH ks s l t o c)=true:=by simp[pkH,As,Am,AV.inScope,Cw]
end Go.Proofs.YtemdkfnenjpioaaGreatDoor
namespace Go.Proofs.YtemdkfnenjpioaaGreatDoor
open Go Go.RowKit
attribute [local simp] Ar aev Ax A7 start AV.cells AV.undef Bc Be Bh Bl Bj AV.isCell Bf A1 Bi
attribute [local simp] fin A9 A8 Bb AV.strip Ay A5 AV.inScope Am A0 As
theorem My {n:Nat} : ∀{v:List AV} {i:Nat} {x:AV},Am n v=true→x.inScope n=true→Am n (v.set i x)=true
 | [],_,_,h,_=>h
 | y :: v,i,x,h,hx=>by
   simp only[Am,Bool.and_eq_true] at h
   cases i with
   | zero=>simp only[List.set_cons_zero,Am,hx,h.2,Bool.and_self]
   | succ i=>simp only[List.set_cons_succ,Am,h.1,My h.2 hx,Bool.and_self]
theorem kq_nil (P:Program) (Q:Bg):kq P [] Q=Q:=by funext x t H;rfl
set_option maxHeartbeats 4000000 in
theorem A3b (ks:List Kd) (s:Sm) (l:List Cn) (t:Te) (hA:PkA ks s l t) (hok:Gq ks s l t=true) (o:Te) (hsh:Ab Tryz.prog Ja [Ae t,.int .i64 0,.int .i64 0] [] (teE (o,0)) []) (c:Cn) (hc:Ab Tryz.prog Jy [Aw ks s] [] (cnE (c,0)) [])
 (hpos:0 < l.length) (hsz:Ap c≤20000) (hne:H7 l.length c) (hlm:l.length≤1000) (ts:List Cn) (hty:tyG l c=some ts) (ho:teB o):
 Ab Tryz.prog Gj [Aw ks s,.sl .none (l.map Ai),Ae t] [] (teE (whE (pkT l ts (List.range ts.length).reverse o))) []:=by
 have hen:Gu Tryz.prog Gj=true:=by kernel_rfl
 have htl:=Ahv _ _ _ hty
 have htz:=Alz _ _ _ hty hsz
 have hpre:=pack_pre ks s l t hA hok o hsh c hc hpos hsz hne hlm ts hty (PkQ ks s l t o ts) (fun _ _ _ h=>h)
 unfold WP at hpre
 rw[kq_nil] at hpre
 have hlz:=hA.l
 clear hne hsz hc hsh hok hA
 refine⟨hen,fun F g w vs hG hs hr=>?_⟩
 obtain⟨fn,cc,b,asg,bdy,tl,hfn,hbody,cC,hrest,cB,cAs,cBd,cT,hnt,hres⟩:=pk_code
 have hs0:=hs.cells
 have hr0:=Gd _ _ hr
 have hG0:=hG.cells
 have hF0: ∀x,Fc F w x→(w.cell? x).isSome=true:=fun x h=>h.2
 suffices key:CallsIn Fence.wide 3 Tryz.prog 49 vs.toArray w fun e w'=>∃v F' g',e= .returned v∧R F' g' w' (teE (whE (pkT l ts (List.range ts.length).reverse o))) v∧St F' g' [] w'∧Ext (Fc F w) g [] w F' g' [] w' by
  refine (callsIn_wide.1 key).mono ?_
  rintro e w' ⟨v,F',g',rfl,hv,hs',hx⟩
  have hfr: ∀B,B < w.heap.size→w'.heap[B]? =w.heap[B]?:=fun B hB=>hx.frame B hB fun b hb=>absurd hb (Nat.not_lt_zero b)
  refine⟨v,fun a=>F' a∨F a,g',rfl,R.mono ⟨fun _ h=>.inl h,fun _ _=>rfl,Gh.le_refl _⟩ _ _ hv,
   ⟨fun a ha=>?_,hs'.beyond,hs'.inj,fun b cs h=>(by simp at h),fun t n k ty h=>(by simp at h),fun b off s ha=>?_,fun b e cs h=>(by simp at h),fun b ks h=>(by simp at h)⟩,
   ⟨fun _ h=>.inr h,fun a ha=>Fs (hfr _ (hs.live a ha)),hx.gh,hx.size,fun B hB _=>hfr B hB,fun a ha=>?_,fun b B hb _=>absurd hb (Nat.not_lt_zero b),Nat.le_refl _,hx.io⟩⟩
  · rcases ha with ha | ha
    · exact hs'.live a ha
    · exact Nat.lt_of_lt_of_le (hs.live a ha) hx.size
  · rcases ha with ha | ha
    · exact hs'.spots b off s ha
    · exact hs.spots b off s ha
  · rcases ha with ha | ha
    · rcases hx.new a ha with h | h | ⟨t,ht,_⟩
      · exact .inl h.1
      · exact .inr (.inl h)
      · exact absurd ht (Nat.not_lt_zero t)
    · exact .inl ha
 have hlen:=Dh hr
 have sim0:Sim Tryz.prog (Fc F w) g [] w (start [Aw ks s,.sl .none (l.map Ai),Ae t] 119) { tmps:=vs.toArray++Array.replicate (119 - vs.toArray.size) undef,defers:=[] }:=by
  refine⟨hs0,?_,rfl,hG0⟩
  show RL (Fc F w) g w _ _
  simp only[start,Array.toList_append,Array.toList_replicate,List.size_toArray,hlen]
  exact E0 hr0 (Mg Dc _)
 refine callsIn_of_wp_marks hfn hbody trivial ?_ rfl
 rw[hnt]
 refine Aqq mixed 8 cc Gz cC rfl (PkQ ks s l t o ts) _ _ hpre _ _ _ _ sim0 _ ?_
 clear hpre
 rintro x u0 H0 F1 g1' a1 w1 ⟨rfl,hul,hu4,hu6,hu8,⟨tok,hu11⟩,huo,c',L,rfl⟩ sim1' ext1'
 refine⟨rfl,?_⟩
 rw[hrest]
 obtain⟨g1,k1,k2,k3⟩:=St.forget (H0:=pkH ks s l t o c') (L:=L) sim1'.1 ext1' (Nat.zero_le _) (A2x ks s l t o c') (fun b _=>hs.beyond b (Nat.zero_le _))
 have tm1:RL F1 g1 w1 (u0.map wkV) a1.tmps.toList:=Fm (n:=6) k1 _ _ (Aht 6 u0 rfl) (wkV_RL huo sim1'.2.1)
 have hsu:=Aht 6 u0 rfl
 have hl:(u0.map wkV).length=119:=by simpa using hul
 have h4:(u0.map wkV)[4]? =some (.ptr 1 0):=by rw[List.getElem?_map,hu4]; rfl
 have h6:(u0.map wkV)[6]? =some (.ptr 3 0):=by rw[List.getElem?_map,hu6]; rfl
 have h8:(u0.map wkV)[8]? =some (.ptr 4 0):=by rw[List.getElem?_map,hu8]; rfl
 have h11:(u0.map wkV)[11]? =some (.sl .none (ts.map Ai)):=by
  rw[List.getElem?_map,hu11]
  simp[wkV]
 generalize u0.map wkV=u at tm1 hsu hl h4 h6 h8 h11
 have s1:St F1 g1 (pkS ks s l t Bv o c') w1:=Anj ks s l t o c' ▸ k2.strip
 have ext1:Ext (Fc F w) g [] w F1 g1 (pkS ks s l t Bv o c') w1:=Anj ks s l t o c' ▸ k3.strip
 have sim1:Sim Tryz.prog F1 g1 (pkS ks s l t Bv o c') w1 u a1:=⟨s1,tm1,sim1'.2.2⟩
 clear k1 k2 k3 sim1' ext1' hu4 hu6 hu8 hu11 huo hul
 refine wpIn_seq (wpIn_seq (wpIn_mono (wpIn_wide.2 ((Avp ts ks s l t Bv o c' u hl h11).det b cB _ _ _ _ sim1)) ?_))
 rintro e a2 w2 ⟨x,t2,H2,F2,g2,rfl,⟨rfl,rfl,rfl⟩,sim2,ext2⟩
 simp only[AX.to,Exit.then]
 have ext02:=ext1.trans ext2
 have hd2:=sim2.2.2.1
 obtain⟨B3,vs3,e3,p1,p2,p3,p4,p5⟩:=sim2.1.var 6 [.sl .none (ts.map Ai)] rfl
 obtain⟨sv,hsv,hsr⟩:=Td p4
 have hsc:w2.cell? ⟨B3,0,none⟩=some sv:=by
  simp only[World.cell?,p3,Option.isSome_none,Bool.false_eq_true,if_false]
  rw[← Array.getElem?_toList,hsv]; rfl
 obtain⟨g3,q1,q2,q3⟩:=St.forget (H0:=pkS ks s l t Bv o c') (L:=[.var [.sl .none (ts.map Ai)]]) sim2.1 ext02 (Nat.zero_le _) (U4 _ ks s l t Bv o c') (fun b _=>hs.beyond b (Nat.zero_le _))
 have q1: ∀b,b < 6→g3.blk b=g2.blk b∧g3.tk b=g2.tk b:=q1
 let FS:Addr→Prop:=fun x=>Fc F2 w2 x∨x=⟨B3,0,none⟩
 have K2:Cr (Fc F2 w2) g2 w2 FS g2 w2:=⟨fun _ h=>.inl h,fun _ _=>rfl,Gh.le_refl _⟩
 have hB3:B3 < w2.heap.size:=B9 p3
 have hFSl: ∀x,FS x→x.block < w2.heap.size:=fun x hx=>by
  rcases hx with hx | rfl
  · exact sim2.1.live x hx.1
  · exact hB3
 have hFSc: ∀x,FS x→(w2.cell? x).isSome=true:=fun x hx=>by
  rcases hx with hx | rfl
  · exact hx.2
  · rw[hsc]; rfl
 have hFSs: ∀b off s,¬FS ⟨b,off,some s⟩:=fun b off s hx=>by
  rcases hx with hx | hx
  · exact sim2.1.spots b off s hx.1
  · cases hx
 have hne3: ∀b B,b < 6→g2.blk b=some B→B≠B3:=fun b B hb h e=>by
  have:=sim2.1.inj b 6 B h (by rw[p1,e]); omega
 have sS:St FS g3 (pkS ks s l t Bv o c') w2:=by
  have s0:=q2.cells
  refine⟨hFSl,q2.beyond,q2.inj,fun b cs hb=>?_,fun t n k ty ht=>?_,hFSs,fun b e cs hb=>?_,fun b m hb=>absurd hb (Nh ks s l t Bv o c' b m)⟩
  · obtain⟨B,us,e',h1,h2,h3,h4,h5⟩:=s0.var b cs hb
    have hb3:b < 6:=(List.getElem?_eq_some_iff.1 hb).1
    refine⟨B,us,e',h1,h2,h3,RL.mono ⟨fun _ h=>.inl h,fun _ _=>rfl,Gh.le_refl _⟩ _ _ h4,fun off h=>?_⟩
    rcases h with h | h
    · exact h5 off h
    · exact hne3 b B hb3 (by rw[← (q1 b hb3).1]; exact h1) (by cases h;rfl)
  · obtain⟨_,hx⟩:=Ve _ _ _ _ _ _ _ ht
    cases hx
  · obtain⟨_,hx⟩:=Ve _ _ _ _ _ _ _ hb
    cases hx
 have eS:Ext (Fc F w) g [] w FS g3 (pkS ks s l t Bv o c') w2:=by
  refine⟨fun x hx=>.inl ⟨q3.sub x hx,?_⟩,q3.keep,q3.gh,q3.size,q3.frame,fun x hx=>?_,q3.blks,q3.len,q3.io⟩
  · rw[q3.keep x hx]; exact hx.2
  · rcases hx with hx | rfl
    · exact q3.new x hx.1
    · refine .inr (.inl ?_)
      rcases ext02.blks 6 B3 (by simp[pkS]) p1 with⟨h,_⟩ | h
      · exact absurd h (Nat.not_lt_zero _)
      · exact h
 obtain⟨U,hU⟩: ∃U,U=(u.set 98 (.sl .none (ts.map Ai))).set 99 (.fn (.func Qj) [] [.eptr [.sl .none (ts.map Ai)]]):=⟨_,rfl⟩
 have hUl:U.length=119:=by rw[hU]; simpa using hl
 have hU4:U[4]? =some (.ptr 1 0):=by rw[hU]; simpa[List.getElem?_set] using h4
 have hU6:U[6]? =some (.ptr 3 0):=by rw[hU]; simpa[List.getElem?_set] using h6
 have hU8:U[8]? =some (.ptr 4 0):=by rw[hU]; simpa[List.getElem?_set] using h8
 have hUs:Am 6 U=true:=by
  rw[hU]
  exact My (My hsu (by simp[AV.inScope])) (by simp[AV.inScope,Am])
 have tS:Tm FS g3 w2 U a2∧a2.tmps[99]? =some (.func (.func 158) #[] #[.pointer (some ⟨B3,0,none⟩)]):=by
  have h0:RL F2 g2 w2 _ a2.tmps.toList:=sim2.2.1
  obtain⟨fv,f1,f2⟩:=I7 h0 99 (.fn (.func Qj) [] [.ptr 6 0]) (by rw[List.getElem?_set_self (by simp[hl])])
  obtain⟨l1,l2,rfl,k1,k2⟩:=Ou f2
  simp only[RL] at k1
  obtain⟨pv,k3,k4⟩:=Td k2
  obtain⟨B',k5,_,rfl⟩:=E9 k4
  rw[p1] at k5;cases k5
  have e1:l1= #[]:=by apply Array.ext';simpa using k1
  have e2:l2= #[.pointer (some ⟨B3,0,none⟩)]:=by apply Array.ext';simpa using k3
  subst e1 e2
  refine⟨?_,by rw[← Array.getElem?_toList]; exact f1⟩
  have h1:RL FS g2 w2 _ a2.tmps.toList:=RL.mono K2 _ _ (Gd _ _ h0)
  have hfv:R FS g2 w2 (.fn (.func Qj) [] [.eptr [.sl .none (ts.map Ai)]]) (.func (.func 158) #[] #[.pointer (some ⟨B3,0,none⟩)]):=by
   simp only[R]
   refine⟨_,_,rfl,by simp[RL],?_⟩
   simp only[RL]
   refine⟨_,[],rfl,?_,rfl⟩
   simp only[R]
   refine⟨B3,0,rfl,?_⟩
   simp only[RM]
   exact⟨⟨rfl,sv,.inr rfl,hsc,R.mono K2 _ _ (K4 _ _ hsr)⟩,trivial⟩
  have h2:=Jn h1 hfv 99
  have e3:a2.tmps.toList.set 99 (.func (.func 158) #[] #[.pointer (some ⟨B3,0,none⟩)])=a2.tmps.toList:=by
   apply List.ext_getElem?
   intro i
   by_cases hi:i=99
   · subst hi
     have hl:99 < a2.tmps.toList.length:=(List.getElem?_eq_some_iff.1 f1).1
     rw[List.getElem?_set_self hl,f1]; rfl
   · rw[List.getElem?_set_ne (Ne.symm hi)]
  rw[e3,List.set_set] at h2
  rw[← hU] at h2
  exact Fm (n:=6) q1 _ _ hUs h2
 clear hU
 obtain⟨tS,hfv⟩:=tS
 have gS:Dr Tryz.prog FS w2:=hG0.mono eS.keeps
 obtain⟨zs,hzs,stops⟩:=Auz ts (by omega) (by omega) FS g3 w2 B3 hFSl sv (.inr rfl) hsc (by
  have:=R.mono K2 _ _ (K4 _ _ hsr)
  exact F9 (n:=6) q1 _ _ (by simp[AV.inScope]) this)
 have mk: ∀{Fx:Addr→Prop} {gx:Gh} {W:World} {H:List HB},Ext FS g3 (pkS ks s l t Bv o c') w2 Fx gx H W→Tm Fx gx W U a2∧Dr Tryz.prog Fx W:=fun h=>⟨tS.mono h.keeps,gS.mono h.keeps⟩
 have sB: ∀b,6≤b→g3.blk b=none∧g3.tk b=none:=fun b hb=>sS.beyond b hb
 refine wpIn_block ?_
 refine wpIn_rangeFunc_ownH rfl (by omega) (gf:=158) (lb:=#[.pointer (some ⟨B3,0,none⟩)]) (by show a2.tmps.getD 99 undef=_;simp[Array.getD_eq_getD_getElem?,hfv]) trivial (fun args w=>W9 (by kernel_rfl) args) stops
  (fun h k a ha=>(k a ha).trans (h a ha)) (fun W l o o' hl h ho _ a ha=>?_) (Below.refl _ _) (fun _=>rfl)
  (fun pre W=>∃F' g',St F' g' (pkS ks s l t Bv (pkT l ts (pre.map fun x=>x.val) o) c') W∧Ext FS g3 (pkS ks s l t Bv o c') w2 F' g' (pkS ks s l t Bv (pkT l ts (pre.map fun x=>x.val) o) c') W∧∀a,F' a→(W.cell? a).isSome=true)
  (fun _ _ _=>False) ?_ (fun _ _ _ _ _ h _ _=>h) ⟨FS,g3,sS,Ext.refl _ _ _ _,hFSc⟩
  (fun x a' W=>a'.defers=[]∧∃Fx gx,(∀ b,gx.tk b=none)∧(∀ b,b < 6→gx.blk b=g3.blk b)∧(∀ b,6≤b→gx.blk b=none)∧(∀ a,Fx a→(FS a∨w2.heap.size≤a.block)∧a.block < W.heap.size∧(W.cell? a).isSome=true∧a.spot=none)∧
   Tm Fx gx W ((((U.set 100 (.int .i64 x.val)).set 101 (Aa ts[x.val])).set 14 (.int .i64 x.val)).set 15 (.eptr (Ai ts[x.val]))) a') ?_ ?_ ?_ ?_ ?_
 ·
  refine Fs ?_
  have:=hFSl a ha
  exact World.putObj_heap_other (by omega)
 · rintro pre W W' row ⟨F',g',h1,h2,h3⟩ hg hr
   exact⟨F',g',h1.grown (Nh _ _ _ _ _ _ _) h3 hg fun r e=>(hr r e).2,h2.grown h3 hg hr,U5 h3 hg fun r e=>(hr r e).2⟩
 · rintro x a' _ W W' row ⟨hd,Fx,gx,b1,b2,b3,b4,b5⟩ hg hr
   have hc: ∀a,Fx a→(W.cell? a).isSome=true:=fun a ha=>(b4 a ha).2.2.1
   exact⟨hd,Fx,gx,b1,b2,b3,fun a ha=>⟨(b4 a ha).1,Nat.lt_of_lt_of_le (b4 a ha).2.1 hg.size,U5 hc hg (fun r e=>(hr r e).2) a ha,(b4 a ha).2.2.2⟩,b5.mono (Cr.grown hc hg fun r e=>(hr r e).2)⟩
 ·
  rintro lp pre x W K ⟨F',g',h1,h2,h3⟩ hK
  obtain⟨tm,gl⟩:=mk h2
  have hkd:R F' g' W (Aa ts[x.val]) (zs x):=by
   have e1:=F9 (n:=0) (g':=⟨fun _=>none,fun _=>none⟩) (fun b hb=>absurd hb (Nat.not_lt_zero b)) _ _ (by simp) (hzs x)
   have e2:R F' ⟨fun _=>none,fun _=>none⟩ W (Aa ts[x.val]) (zs x):=R.mono ⟨h2.sub,h2.keep,Gh.le_refl _⟩ _ _ e1
   exact F9 (n:=0) (fun b hb=>absurd hb (Nat.not_lt_zero b)) _ _ (by simp) e2
  have hin:R F' g' W (.int .i64 x.val) (.int .i64 x.val):=by
   simp only[R]; exact⟨trivial,M7 (by simp only[A4]; have:=x.isLt;omega)⟩
  have simA:Sim Tryz.prog F' g' (pkS ks s l t Bv (pkT l ts (pre.map fun x=>x.val) o) c') W ((U.set 100 (.int .i64 x.val)).set 101 (Aa ts[x.val]))
   { tmps:=((#[100,101]:Array Tmp).zip #[.int .i64 x.val,zs x]).foldl (fun t (p,v)=>t.setIfInBounds p v) a2.tmps,defers:=[] }:=by
   refine⟨h1,?_,rfl,gl⟩
   show RL F' g' W _ _
   rw[Axt]
   simp only[Array.toList_setIfInBounds]
   exact Jn (Jn tm hin 100) hkd 101
  refine wpIn_mono (Aum (ro:=some lp) (n:=1) ks s l t Bv (pkT l ts (pre.map fun x=>x.val) o) c' ts[x.val] x.val _ (by simp[hUl]) (by simp[List.getElem?_set,hUl]) (by simp[List.getElem?_set,hUl]) asg cAs F' g' W _ simA) ?_
  rintro e a' W' ⟨x',t',H',F3,g4,rfl,⟨rfl,rfl,rfl⟩,sim',ext'⟩
  simp only[AX.to,Exit.then]
  have ext3:=h2.trans ext'
  obtain⟨Bk,vk,ek,r1,r2,r3,r4,r5⟩:=sim'.1.var 6 (Ai ts[x.val]) rfl
  have hBkc: ∀(j:Nat) (v:Value),vk.toList[j]? =some v→W'.cell? ⟨Bk,j,none⟩=some v:=fun j v hv=>by
   simp only[World.cell?,r3,Option.isSome_none,Bool.false_eq_true,if_false]
   rw[← Array.getElem?_toList]; exact hv
  have hBk:w2.heap.size≤Bk:=by
   rcases ext3.blks 6 Bk (by simp[pkS]) r1 with⟨h,_⟩ | h
   · exact absurd h (by simp[pkS])
   · exact h
  have hvl:vk.toList.length=6:=by rw[← Dh r4]; simp
  obtain⟨g5,m1,m2,m3⟩:=St.forget (H:=pkS ks s l t Bv o c') (H0:=pkS ks s l t Bv (pkT l ts (pre.map fun x=>x.val) o) c') (L:=[.var (Ai ts[x.val])]) sim'.1 ext3 (Nat.le_of_eq rfl) (U4 _ _ _ _ _ _ _ _) sB
  have m1: ∀b,b < 6→g5.blk b=g4.blk b∧g5.tk b=g4.tk b:=m1
  have m2c:=m2.cells
  refine hK a' W' ((Ext.others h1 (Nh _ _ _ _ _ _ _) ext').from _) (fun a ha=>ext'.keep a (h2.sub a ha)) ⟨Fc F3 W',g5,m2c,m3.cells hFSc,fun _ h=>h.2⟩ ⟨sim'.2.2.1,fun y=>Fc F3 W' y∨(y.block=Bk∧y.spot=none∧y.off < 6),g5,T0 m2,fun b hb=>?_,fun b hb=>(m2.beyond b hb).1,fun y hy=>?_,?_⟩
  · obtain⟨B,hB,_⟩:=App sS hb
    rw[hB]; exact (m3.gh.blk b B hB (T0 sS b)).1
  · rcases hy with hy | hy
    · refine⟨?_,sim'.1.live y hy.1,hy.2,?_⟩
      · rcases ext3.new y hy.1 with h | h | ⟨t,_,h,_⟩
        · exact .inl h
        · exact .inr h
        · exact absurd (T0 sS t) h
      · cases y with
        | mk bl off spot=>
          cases spot with
          | none=>rfl
          | some s=>exact absurd hy.1 (sim'.1.spots _ _ _)
    · cases y with
      | mk bl off spot=>
        obtain⟨rfl,rfl,h6⟩:=hy
        obtain⟨v,hv⟩: ∃v,vk.toList[off]? =some v:=⟨_,List.getElem?_eq_getElem (by rw[hvl]; exact h6)⟩
        exact⟨.inr hBk,B9 r3,by rw[hBkc _ _ hv]; rfl,rfl⟩
  · have u0:RL F3 g4 W' _ a'.tmps.toList:=sim'.2.1
    have Kk:Cr (Fc F3 W') g4 W' (fun y=>Fc F3 W' y∨(y.block=Bk∧y.spot=none∧y.off < 6)) g4 W':=⟨fun _ h=>.inl h,fun _ _=>rfl,Gh.le_refl _⟩
    obtain⟨pv,f1,f2⟩:=I7 u0 15 (.ptr 6 0) (by simp[List.getElem?_set,hUl])
    obtain⟨B',k5,_,rfl⟩:=E9 f2
    rw[r1] at k5;cases k5
    have hpv:R (fun y=>Fc F3 W' y∨(y.block=Bk∧y.spot=none∧y.off < 6)) g4 W' (.eptr (Ai ts[x.val])) (.pointer (some ⟨Bk,0,none⟩)):=by
     simp only[R]
     refine⟨Bk,0,rfl,?_⟩
     have rm: ∀(cs:List AV) (vl:List Value) (off:Nat),cs.all AV.isCell=true→RL F3 g4 W' cs vl→(∀ j v,vl[j]? =some v→off+j < 6∧W'.cell? ⟨Bk,off+j,none⟩=some v)→RM (fun y=>Fc F3 W' y∨(y.block=Bk∧y.spot=none∧y.off < 6)) g4 W' Bk off cs:=by
      intro cs
      induction cs with
      | nil=>intro vl off _ _ _;simp only[RM]
      | cons y cs ih=>
        intro vl off hca hrl hcell
        simp only[RL] at hrl
        obtain⟨v,r,rfl,z1,z2⟩:=hrl
        simp only[List.all_cons,Bool.and_eq_true] at hca
        simp only[RM]
        obtain⟨z3,z4⟩:=hcell 0 v rfl
        refine⟨⟨hca.1,v,.inr ⟨trivial,trivial,by simpa using z3⟩,by simpa using z4,R.mono Kk _ _ (K4 _ _ z1)⟩,ih r (off+1) hca.2 z2 fun j v' hj=>?_⟩
        have:=hcell (j+1) v' (by simpa using hj)
        rwa [show off+(j+1)=off+1+j by omega] at this
     exact rm _ _ 0 (Aa7 _) r4 fun j v hj=>⟨by have h7:=(List.getElem?_eq_some_iff.1 hj).1;rw[hvl] at h7;simpa using h7,by simpa using hBkc j v hj⟩
    have u2:=Jn (RL.mono Kk _ _ (Gd _ _ u0)) hpv 15
    have e3:a'.tmps.toList.set 15 (.pointer (some ⟨Bk,0,none⟩))=a'.tmps.toList:=by
     apply List.ext_getElem?
     intro i
     by_cases hi:i=15
     · subst hi
       have hl:15 < a'.tmps.toList.length:=(List.getElem?_eq_some_iff.1 f1).1
       rw[List.getElem?_set_self hl,f1]
     · rw[List.getElem?_set_ne (Ne.symm hi)]
    rw[e3,List.set_set] at u2
    exact Fm (n:=6) m1 _ _ (by
     refine My (My (My (My hUs (by simp[AV.inScope])) (by simp)) (by simp[AV.inScope])) (by simp[AV.inScope])) u2
 ·
  rintro lp pre x a' W hl' _ ⟨F',g',h1,h2,h3⟩ ⟨hd,Fx,gx,b1,b2,b3,b4,b5⟩ _
  have gl:=(mk h2).2
  have hblk: ∀b B,g'.blk b=some B→b < 6∧g3.blk b=some B:=fun b B h=>by
   have hb:b < 6:=h1.lt h
   obtain⟨B0,hB0,_⟩:=App sS hb
   have:=(h2.gh.blk b B0 hB0 (T0 sS b)).1
   rw[h] at this;cases this
   exact⟨hb,hB0⟩
  have hnF: ∀b B off,g'.blk b=some B→¬F' ⟨B,off,none⟩→¬(F' ⟨B,off,none⟩∨Fx ⟨B,off,none⟩):=fun b B off hb hn h=>by
   rcases h with h | h
   · exact hn h
   · rcases (b4 _ h).1 with q | q
     · exact hn (h2.sub _ q)
     · have:=sS.blk_lt (hblk b B hb).2;simp only at q;omega
  have KF:Cr F' g' W (fun y=>F' y∨Fx y) g' W:=⟨fun _ h=>.inl h,fun _ _=>rfl,Gh.le_refl _⟩
  have s3:St (fun y=>F' y∨Fx y) g' (pkS ks s l t Bv (pkT l ts (pre.map fun x=>x.val) o) c') W:=by
   refine⟨fun y hy=>?_,h1.beyond,h1.inj,fun b cs hb=>?_,fun t n k ty ht=>?_,fun b off s hy=>?_,fun b e cs hb=>?_,fun b m hb=>absurd hb (Nh _ _ _ _ _ _ _ b m)⟩
   · rcases hy with hy | hy
     · exact h1.live y hy
     · exact (b4 y hy).2.1
   · obtain⟨B,us,e',k1,k2,k3,k4,k5⟩:=h1.var b cs hb
     exact⟨B,us,e',k1,k2,k3,RL.mono KF _ _ k4,fun off=>hnF b B off k1 (k5 off)⟩
   · obtain⟨_,hx⟩:=Ve _ _ _ _ _ _ _ ht
     cases hx
   · rcases hy with hy | hy
     · exact h1.spots b off s hy
     · cases (b4 _ hy).2.2.2
   · obtain⟨_,hx⟩:=Ve _ _ _ _ _ _ _ hb
     cases hx
  have x3:Ext FS g3 (pkS ks s l t Bv o c') w2 (fun y=>F' y∨Fx y) g' (pkS ks s l t Bv (pkT l ts (pre.map fun x=>x.val) o) c') W:=by
   refine⟨fun y hy=>.inl (h2.sub y hy),h2.keep,h2.gh,h2.size,h2.frame,fun y hy=>?_,h2.blks,h2.len,h2.io⟩
   rcases hy with hy | hy
   · exact h2.new y hy
   · exact (b4 y hy).1.imp id .inl
  have tm:Tm (fun y=>F' y∨Fx y) g' W ((((U.set 100 (.int .i64 x.val)).set 101 (Aa ts[x.val])).set 14 (.int .i64 x.val)).set 15 (.eptr (Ai ts[x.val]))) a':=by
   refine b5.mono ⟨fun _ h=>.inr h,fun _ _=>rfl,fun b B hb _=>?_,fun t m k ht=>by rw[b1] at ht;cases ht⟩
   have hb3:b < 6:=by
    rcases Nat.lt_or_ge b 6 with h | h
    · exact h
    · rw[b3 b h] at hb;cases hb
   rw[b2 b hb3] at hb
   exact h2.gh.blk b B hb (T0 sS b)
  have hxl:x.val < l.length:=by have:=x.isLt;omega
  refine wpIn_block (wpIn_mono (pk_body (ro:=some lp) (n:=1) ks s l t Bv (pkT l ts (pre.map fun x=>x.val) o) c' ts[x.val] x.val hxl hlz _ (by simp[hUl]) (by simpa[List.getElem?_set] using hU4) (by simpa[List.getElem?_set] using hU8) (by simp[List.getElem?_set,hUl]) (by simp[List.getElem?_set,hUl]) bdy cBd _ g' W a' ⟨s3,tm,hd,gl.mono KF⟩) ?_)
  rintro e a'' W'' ⟨x',t',H',F4,g4,rfl,⟨rfl,cs',L',rfl,hst⟩,sim',ext'⟩
  simp only[AX.to,Exit.inBlock]
  have ext4:=x3.trans ext'
  have hH:([.var (.sl .none (ks.map Ao) :: B6 s),.var [.sl .none (l.map Ai)],.var (Bm t),.var (Bm Bv),.var cs',.var (Ai c')]:List HB).map Gr=pkS ks s l t Bv (pkT l ts ((pre++[x]).map fun x=>x.val) o) c':=by
   have hg1:l.getD x.val Az=l[x.val]:=by rw[List.getD_eq_getElem?_getD,List.getElem?_eq_getElem hxl]; rfl
   have hg2:ts.getD x.val Az=ts[x.val]:=by rw[List.getD_eq_getElem?_getD,List.getElem?_eq_getElem x.isLt]; rfl
   simp only[List.map_append,List.map_cons,List.map_nil,pkT_snoc,pkS,Gr,hg1,hg2,hst]
   simp[Ay,AV.strip]
  have st4:=sim'.1.strip
  have ex4:=ext4.strip
  rw[List.map_append,hH] at st4 ex4
  obtain⟨g5,m1,m2,m3⟩:=St.forget (H:=pkS ks s l t Bv o c') (H0:=pkS ks s l t Bv (pkT l ts ((pre++[x]).map fun x=>x.val) o) c') (L:=L'.map Gr) st4 ex4 (Nat.le_of_eq rfl) (U4 _ _ _ _ _ _ _ _) sB
  exact⟨(Ext.others s3 (Nh _ _ _ _ _ _ _) ext').from _,fun a ha=>ext'.keep a (.inl (h2.sub a ha)),Fc F4 W'',g5,m2.cells,m3.cells hFSc,fun _ h=>h.2⟩
 ·
  rintro D xs W hD hS ⟨F',g',h1,h2,h3⟩ hKD
  obtain⟨tm,gl⟩:=mk h2
  rw[hS] at h1 h2
  have hot:=Agy l ts htz (List.range ts.length).reverse o ho
  generalize pkT l ts (List.range ts.length).reverse o=of at h1 h2 hot ⊢
  simp only[Exit.inBlock,Exit.then]
  refine wpIn_seq (wpIn_mono (Agn (ro:=none) (n:=3) (ds:=[{ target:=.collected D,args:=#[] }]) (Q:=fun x u' H=>x= .normal∧(u'.getD 6 .undef= .ptr 3 0∧u'.getD 7 .undef= .int .i64 (whE of).2∧H=pkS ks s l t (whE of).1 of c')) cT ⟨h1,tm,by simp[hd2],gl⟩ ?_) ?_)
  ·
   exact Xc (pk_last ks s l t Bv of c' hot U hUl hU6 hU8) fun t H h=>⟨rfl,h⟩
  · rintro e a3 w3 ⟨x',t',H',F3,g4,rfl,⟨rfl,ht6,ht7,rfl⟩,sim',ext'⟩
    simp only[AX.to,Exit.then]
    obtain⟨s3,tm3,hd3,_⟩:=sim'
    have hKD3:w3.heap[D]? =some (.deferred (some [])):=(Ext.others h1 (Nh _ _ _ _ _ _ _) ext').same D _ hKD rfl
    refine wpIn_ret ?_
    show LeavesInM Fence.wide 3 Tryz.prog fn a3.tmps _ a3.defers .returning w3
    rw[hd3]
    refine⟨by simp,.inl ⟨D,_,rfl,run_takeDeferred hKD3,?_⟩⟩
    have ex3:=((eS.trans h2).trans ext').cells hF0
    have s3c:=s3.cells
    have hnm3:=Nh ks s l t (whE of).1 of c'
    have hc3: ∀a,Fc F3 w3 a→(w3.cell? a).isSome=true:=fun _ h=>h.2
    have hg:w3.grownBy (w3.putObj D (.deferred none)) (some D):=grownBy_putObj' w3 D _
    have hr: ∀r,some D=some r→w.heap.size≤r∧∃o:Obj,w3.heap[r]? =some o∧o.isCells=false:=fun r e=>by
     cases e;exact⟨Nat.le_trans eS.size hD,_,hKD3,rfl⟩
    have s4:=s3c.grown hnm3 hc3 hg fun r e=>(hr r e).2
    have ex4:=ex3.grown hc3 hg hr
    have tm4:Tm (Fc F3 w3) g4 (w3.putObj D (.deferred none)) t' a3:=Tm.mono (Cr.grown hc3 hg fun r e=>(hr r e).2) (show Tm (Fc F3 w3) g4 w3 t' a3 from Gd _ _ tm3)
    have gl4:Dr Tryz.prog (Fc F3 w3) (w3.putObj D (.deferred none)):=hG0.mono ex4.keeps
    obtain⟨v,hu,hru⟩:=Vz (P:=Tryz.prog) (a:={ tmps:=a3.tmps,defers:=[] }) (t:=t') (v:=teE (whE of)) ⟨s4,tm4,rfl,gl4⟩ hres (by
     generalize whE of=z at ht7 ⊢
     simp only[A9,A8,Bb,ht6,ht7]
     simp[Bc,teE,Ae,pkS])
    obtain⟨g5,m1,m2,m3⟩:=St.forget (H:=[]) (H0:=[]) (L:=pkS ks s l t (whE of).1 of c') s4 ex4 (Nat.le_refl _) rfl (fun b _=>hs.beyond b (Nat.zero_le _))
    exact⟨v,hu,v,_,g5,rfl,F9 (n:=0) (fun b hb=>absurd hb (Nat.not_lt_zero b)) _ _ (Ex _ 0) hru,m2,m3⟩
 · rintro D c' pre W _ _ h
   exact h.elim
end Go.Proofs.YtemdkfnenjpioaaGreatDoor
