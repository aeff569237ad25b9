/- Joined: K27 K29 K36 K40 Rf. -/
import Derived.Test.YtemdkfnenjpioaaGreatDoorG17
set_option linter.unusedSimpArgs false
set_option linter.unusedVariables false
set_option linter.unusedSectionVars false
set_option linter.all false
set_option maxHeartbeats 4000000
set_option maxRecDepth 10000
namespace Go.Proofs.YtemdkfnenjpioaaGreatDoor
open Go
attribute [local simp] Ar aev Ax A7 start AV.cells AV.undef Bc Be Bh Bl Bj AV.isCell Bf A1 Bi
attribute [local simp] fin A9 A8 Bb AV.strip Ay A5 AV.inScope Am A0 As
attribute [local simp] Ca Cg
set_option maxHeartbeats 4000000 in
theorem Aq6 (s:Sm) (hc:Ap s.con≤1000000000000):Ab Tryz.prog Tv [An s] [] (.bool (C2 s)) []:=by
 have hz:=Y8 s.con Az
 rw[show Aa Az= .agg [.int .i64 0,.int .i64 0,.str [],.sl .none [],.sl .none [],.sl .none []] by simp[Aa,Cu]] at hz
 refine Ab.go mixed Aqu (by simp) fun hfit Q hQ=>?_
 clear hfit
 have f1:m1 s=false→C2 s=false:=fun h=>by rw[C2,h]; rfl
 have f2:m2 s=false→C2 s=false:=fun h=>by rw[C2,h]; simp
 have f3:m3 s=false→C2 s=false:=fun h=>by rw[C2,h]; simp
 have f4:m4 s=false→C2 s=false:=fun h=>by rw[C2,h]; simp
 have fin5:m1 s=true→m2 s=true→m3 s=true→m4 s=true→C2 s=m5 s:=fun h1 h2 h3 h4=>by rw[C2,h1,h2,h3,h4]; simp
 simp -implicitDefEqProofs[-Int.not_lt, -Int.not_le, -A3,Ac1,An,Ak s]
 rw[A3]
 simp -implicitDefEqProofs[-Int.not_lt, -Int.not_le, -A3]
 refine E2 (fun f=>m1 s=true) (fun Q' hn hr=>?_) (fun f hI=>?_)
 · clear f2 f3 f4 fin5 hz
   simp -implicitDefEqProofs[-Int.not_lt, -Int.not_le,Hc]
   repeat' (first | (refine Cl (fun hb=>?_) (fun hb=>?_)<;>(try simp only[Bool.not_eq_true',Bool.not_eq_true,Bool.not_eq_false,Bool.not_eq_false',Bool.not_true,Bool.not_false,Bool.not_not] at hb)<;>simp -implicitDefEqProofs[-Int.not_lt, -Int.not_le,hb,Hc]) | (refine Dp (fun hb=>?_) (fun hb=>?_)<;>(try simp only[Bool.not_eq_true',Bool.not_eq_true,Bool.not_eq_false,Bool.not_eq_false',Bool.not_true,Bool.not_false,Bool.not_not] at hb)<;>simp -implicitDefEqProofs[-Int.not_lt, -Int.not_le,hb,Hc]) | (refine Ah (Awa s) (by simp) (by simp) (by simp[Ag,Aa,Ac,Al,Af,Kd.l,An,Ak]) ?_;simp -implicitDefEqProofs[-Int.not_lt, -Int.not_le,Hc]))
   all_goals first
    | (refine hr _ _ ?_;have e:=f1 (by clear hn hr hQ;(try simp only[decide_eq_true_eq,decide_eq_false_iff_not] at *); first | (simp[-Int.not_lt, -Int.not_le, *,m1]; done) | (exfalso;omega) | (exfalso;simp_all;done)); simp -implicitDefEqProofs;refine hQ _ _ _ ?_;simp -implicitDefEqProofs[e]; done)
    | (refine hn _ (by simp -implicitDefEqProofs[AC.dsts,Au,At,Aq]) ?_;clear hn hr hQ;(try simp only[decide_eq_true_eq,decide_eq_false_iff_not] at *); first | (simp[-Int.not_lt, -Int.not_le, *,m1]; done) | (exfalso;omega) | (exfalso;simp_all;done))
 simp -implicitDefEqProofs[-Int.not_lt, -Int.not_le, -A3,AC.dsts,Au,At]
 refine E2 (fun f=>m2 s=true) (fun Q' hn hr=>?_) (fun f hI=>?_)
 · clear f1 f3 f4 fin5
   cases ho:D2 s.op
   · simp -implicitDefEqProofs[-Int.not_lt, -Int.not_le]
     repeat' (first | (refine Cl (fun hb=>?_) (fun hb=>?_)<;>(try simp only[Bool.not_eq_true',Bool.not_eq_true,Bool.not_eq_false,Bool.not_eq_false',Bool.not_true,Bool.not_false,Bool.not_not] at hb)<;>simp -implicitDefEqProofs[-Int.not_lt, -Int.not_le,hb,ho]) | (refine Dp (fun hb=>?_) (fun hb=>?_)<;>(try simp only[Bool.not_eq_true',Bool.not_eq_true,Bool.not_eq_false,Bool.not_eq_false',Bool.not_true,Bool.not_false,Bool.not_not] at hb)<;>simp -implicitDefEqProofs[-Int.not_lt, -Int.not_le,hb,ho]) | (refine Ah (Xf s.op) (by simp) (by simp) (by simp[Ag,Aa,Ac,Al,Af,Kd.l,An,Ak]) ?_;simp -implicitDefEqProofs[-Int.not_lt, -Int.not_le,ho]) | (refine Ah (hz) (by simp) (by simp) (by simp[Ag,Aa,Ac,Al,Af,Kd.l,An,Ak]) ?_;simp -implicitDefEqProofs[-Int.not_lt, -Int.not_le,ho]))
     clear hz
     all_goals first
      | (refine hr _ _ ?_;have e:=f2 (by clear hn hr hQ;(try simp only[decide_eq_true_eq,decide_eq_false_iff_not] at *); first | (simp[-Int.not_lt, -Int.not_le, *,m2]; done) | (exfalso;omega) | (exfalso;simp_all;done)); simp -implicitDefEqProofs;refine hQ _ _ _ ?_;simp -implicitDefEqProofs[e]; done)
      | (refine hn _ (by simp -implicitDefEqProofs[AC.dsts,Au,At,Aq]) ?_;clear hn hr hQ;(try simp only[decide_eq_true_eq,decide_eq_false_iff_not] at *); first | (simp[-Int.not_lt, -Int.not_le, *,m2]; done) | (exfalso;omega) | (exfalso;simp_all;done))
   · clear hz
     simp -implicitDefEqProofs[-Int.not_lt, -Int.not_le]
     repeat' (first | (refine Cl (fun hb=>?_) (fun hb=>?_)<;>(try simp only[Bool.not_eq_true',Bool.not_eq_true,Bool.not_eq_false,Bool.not_eq_false',Bool.not_true,Bool.not_false,Bool.not_not] at hb)<;>simp -implicitDefEqProofs[-Int.not_lt, -Int.not_le,hb,ho]) | (refine Dp (fun hb=>?_) (fun hb=>?_)<;>(try simp only[Bool.not_eq_true',Bool.not_eq_true,Bool.not_eq_false,Bool.not_eq_false',Bool.not_true,Bool.not_false,Bool.not_not] at hb)<;>simp -implicitDefEqProofs[-Int.not_lt, -Int.not_le,hb,ho]) | (refine Ah (Xf s.op) (by simp) (by simp) (by simp[Ag,Aa,Ac,Al,Af,Kd.l,An,Ak]) ?_;simp -implicitDefEqProofs[-Int.not_lt, -Int.not_le,ho]) | (refine Ah (D5 s.con hc) (by simp) (by simp) (by simp[Ag,Aa,Ac,Al,Af,Kd.l,An,Ak]) ?_;simp -implicitDefEqProofs[-Int.not_lt, -Int.not_le,ho]))
     all_goals first
      | (refine hr _ _ ?_;have e:=f2 (by clear hn hr hQ;(try simp only[decide_eq_true_eq,decide_eq_false_iff_not] at *); first | (simp[-Int.not_lt, -Int.not_le, *,m2]; done) | (exfalso;omega) | (exfalso;simp_all;done)); simp -implicitDefEqProofs;refine hQ _ _ _ ?_;simp -implicitDefEqProofs[e]; done)
      | (refine hn _ (by simp -implicitDefEqProofs[AC.dsts,Au,At,Aq]) ?_;clear hn hr hQ;(try simp only[decide_eq_true_eq,decide_eq_false_iff_not] at *); first | (simp[-Int.not_lt, -Int.not_le, *,m2]; done) | (exfalso;omega) | (exfalso;simp_all;done))
 simp -implicitDefEqProofs[-Int.not_lt, -Int.not_le, -A3,AC.dsts,Au,At]
 refine E2 (fun f=>m3 s=true) (fun Q' hn hr=>?_) (fun f hI=>?_)
 · clear f1 f2 f4 fin5 hz
   simp -implicitDefEqProofs[-Int.not_lt, -Int.not_le]
   repeat' (first | (refine Cl (fun hb=>?_) (fun hb=>?_)<;>(try simp only[Bool.not_eq_true',Bool.not_eq_true,Bool.not_eq_false,Bool.not_eq_false',Bool.not_true,Bool.not_false,Bool.not_not] at hb)<;>simp -implicitDefEqProofs[-Int.not_lt, -Int.not_le,hb]) | (refine Dp (fun hb=>?_) (fun hb=>?_)<;>(try simp only[Bool.not_eq_true',Bool.not_eq_true,Bool.not_eq_false,Bool.not_eq_false',Bool.not_true,Bool.not_false,Bool.not_not] at hb)<;>simp -implicitDefEqProofs[-Int.not_lt, -Int.not_le,hb]) | (refine Ah (Nm s.k) (by simp) (by simp) (by simp[Ag,Aa,Ac,Al,Af,Kd.l,An,Ak]) ?_;simp -implicitDefEqProofs[-Int.not_lt, -Int.not_le]))
   all_goals first
    | (refine hr _ _ ?_;have e:=f3 (by clear hn hr hQ;(try simp only[decide_eq_true_eq,decide_eq_false_iff_not] at *); first | (simp[-Int.not_lt, -Int.not_le, *,m3]; done) | (exfalso;omega) | (exfalso;simp_all;done)); simp -implicitDefEqProofs;refine hQ _ _ _ ?_;simp -implicitDefEqProofs[e]; done)
    | (refine hn _ (by simp -implicitDefEqProofs[AC.dsts,Au,At,Aq]) ?_;clear hn hr hQ;(try simp only[decide_eq_true_eq,decide_eq_false_iff_not] at *); first | (simp[-Int.not_lt, -Int.not_le, *,m3]; done) | (exfalso;omega) | (exfalso;simp_all;done))
 simp -implicitDefEqProofs[-Int.not_lt, -Int.not_le, -A3,AC.dsts,Au,At]
 refine E2 (fun f=>m4 s=true) (fun Q' hn hr=>?_) (fun f hI=>?_)
 · clear f1 f2 f3 fin5 hz
   simp -implicitDefEqProofs[-Int.not_lt, -Int.not_le]
   repeat' (first | (refine Cl (fun hb=>?_) (fun hb=>?_)<;>(try simp only[Bool.not_eq_true',Bool.not_eq_true,Bool.not_eq_false,Bool.not_eq_false',Bool.not_true,Bool.not_false,Bool.not_not] at hb)<;>simp -implicitDefEqProofs[-Int.not_lt, -Int.not_le,hb]) | (refine Dp (fun hb=>?_) (fun hb=>?_)<;>(try simp only[Bool.not_eq_true',Bool.not_eq_true,Bool.not_eq_false,Bool.not_eq_false',Bool.not_true,Bool.not_false,Bool.not_not] at hb)<;>simp -implicitDefEqProofs[-Int.not_lt, -Int.not_le,hb]) | (refine Ah (Ads s.s) (by simp) (by simp) (by simp[Ag,Aa,Ac,Al,Af,Kd.l,An,Ak]) ?_;simp -implicitDefEqProofs[-Int.not_lt, -Int.not_le]))
   all_goals first
    | (refine hr _ _ ?_;have e:=f4 (by clear hn hr hQ;(try simp only[decide_eq_true_eq,decide_eq_false_iff_not] at *); first | (simp[-Int.not_lt, -Int.not_le, *,m4]; done) | (exfalso;omega) | (exfalso;simp_all;done)); simp -implicitDefEqProofs;refine hQ _ _ _ ?_;simp -implicitDefEqProofs[e]; done)
    | (refine hn _ (by simp -implicitDefEqProofs[AC.dsts,Au,At,Aq]) ?_;clear hn hr hQ;(try simp only[decide_eq_true_eq,decide_eq_false_iff_not] at *); first | (simp[-Int.not_lt, -Int.not_le, *,m4]; done) | (exfalso;omega) | (exfalso;simp_all;done))
 have e:=fin5 ‹_› ‹_› ‹_› ‹_›
 clear f1 f2 f3 f4 fin5 hz
 simp -implicitDefEqProofs[-Int.not_lt, -Int.not_le,AC.dsts,Au,At]
 by_cases h4:s.op=4
 · have e4:C2 s=(decide (s.n=0) && (Ej s.ks && decide (s.more=[]))):=by rw[e,m5,if_pos h4]
   clear e
   by_cases hn:s.n=0
   · simp -implicitDefEqProofs[-Int.not_lt, -Int.not_le,h4,hn]
     refine Ah (Aak s.ks) (by simp) (by simp) (by simp[Ag,Aa,Ac,Al,Af,Kd.l,An,Ak]) ?_
     cases hk:Ej s.ks
     · simp -implicitDefEqProofs[-Int.not_lt, -Int.not_le]
       refine hQ _ _ _ ?_
       simp -implicitDefEqProofs[-Int.not_lt, -Int.not_le,e4,hn,hk]
     · simp -implicitDefEqProofs[-Int.not_lt, -Int.not_le]
       refine hQ _ _ _ ?_
       simp -implicitDefEqProofs[-Int.not_lt, -Int.not_le,e4,hn,hk]
   · simp -implicitDefEqProofs[-Int.not_lt, -Int.not_le,h4,hn]
     refine hQ _ _ _ ?_
     simp -implicitDefEqProofs[-Int.not_lt, -Int.not_le,e4,hn]
 by_cases h6:s.op=6
 · have e4:C2 s=(Ej s.ks && (Ej s.more && (decide (s.n=0) || (decide (s.n=1) && decide (s.more=[]))))):=by rw[e,m5,if_neg h4,if_pos h6]
   clear e
   simp -implicitDefEqProofs[-Int.not_lt, -Int.not_le,h6]
   refine Ah (Aak s.ks) (by simp) (by simp) (by simp[Ag,Aa,Ac,Al,Af,Kd.l,An,Ak]) ?_
   cases hk:Ej s.ks
   · simp -implicitDefEqProofs[-Int.not_lt, -Int.not_le]
     refine hQ _ _ _ ?_
     simp -implicitDefEqProofs[-Int.not_lt, -Int.not_le,e4,hk]
   simp -implicitDefEqProofs[-Int.not_lt, -Int.not_le]
   refine Ah (Aak s.more) (by simp) (by simp) (by simp[Ag,Aa,Ac,Al,Af,Kd.l,An,Ak]) ?_
   cases hm:Ej s.more
   · simp -implicitDefEqProofs[-Int.not_lt, -Int.not_le]
     refine hQ _ _ _ ?_
     simp -implicitDefEqProofs[-Int.not_lt, -Int.not_le,e4,hk,hm]
   by_cases hn:s.n=0
   · simp -implicitDefEqProofs[-Int.not_lt, -Int.not_le,hn]
     refine hQ _ _ _ ?_
     simp -implicitDefEqProofs[-Int.not_lt, -Int.not_le,e4,hn,hk,hm]
   by_cases hn1:s.n=1
   · simp -implicitDefEqProofs[-Int.not_lt, -Int.not_le,hn1]
     refine hQ _ _ _ ?_
     simp -implicitDefEqProofs[-Int.not_lt, -Int.not_le,e4,hn1,hk,hm]
   · simp -implicitDefEqProofs[-Int.not_lt, -Int.not_le,hn,hn1]
     refine hQ _ _ _ ?_
     simp -implicitDefEqProofs[-Int.not_lt, -Int.not_le,e4,hn,hn1,hk,hm]
 · have e4:C2 s=(decide (s.n=0) && (decide (s.ks=[]) && decide (s.more=[]))):=by rw[e,m5,if_neg h4,if_neg h6]
   clear e
   by_cases hn:s.n=0
   case neg=>
    simp -implicitDefEqProofs[-Int.not_lt, -Int.not_le,h4,h6,hn]
    refine hQ _ _ _ ?_
    simp -implicitDefEqProofs[-Int.not_lt, -Int.not_le,e4,hn]
   by_cases hk:s.ks=[]
   · simp -implicitDefEqProofs[-Int.not_lt, -Int.not_le,h4,h6,hn,hk]
     refine hQ _ _ _ ?_
     simp -implicitDefEqProofs[-Int.not_lt, -Int.not_le,e4,hn,hk]
   · simp -implicitDefEqProofs[-Int.not_lt, -Int.not_le,h4,h6,hn,hk]
     refine hQ _ _ _ ?_
     simp -implicitDefEqProofs[-Int.not_lt, -Int.not_le,e4,hn,hk]
end Go.Proofs.YtemdkfnenjpioaaGreatDoor
namespace Go.Proofs.YtemdkfnenjpioaaGreatDoor
open Go
attribute [local simp] Ar aev Ax A7 start AV.cells AV.undef Bc Be Bh Bl Bj AV.isCell Bf A1 Bi
attribute [local simp] fin A9 A8 Bb AV.strip Ay A5 AV.inScope Am A0 As
theorem Awc (s:Sm) (left depth:Int) (hc:C1 s) (hl0: -1000000≤left) (hl:left≤20000) (hd0:0≤depth) (hd:depth≤1000)
 (hrec: ∀x ∈ s.l,∀left depth, -1000000≤left→left≤20000→0≤depth→depth≤1000→Ab Tryz.prog Ks [An x,.int .i64 left,.int .i64 depth] [] (Gf (mS x left depth)) []):
 Ab Tryz.prog Ks [An s,.int .i64 left,.int .i64 depth] [] (Gf (mS s left depth)) []:=by
 have hcs:=((Hz s).1 hc).1
 have key0:=mS_eq s left depth
 refine Ab.go mixed Al6 (by simp) fun hfit Q hQ=>?_
 have hf:=Rh (c:=s) (by simpa[Bn,An,AV.fits] using hfit.1)
 have hln:s.l.length≤1073741824:=hf.2.2.2.2.1
 clear hfit hf
 simp -implicitDefEqProofs[Aa1,An,Ak s]
 by_cases h1:left≤0
 · rw[if_pos (.inl h1)] at key0
   simp -implicitDefEqProofs[h1]
   refine hQ _ _ _ ?_
   simp -implicitDefEqProofs[key0,Gf]
 by_cases h2:400 < depth
 · rw[if_pos (.inr (.inl h2))] at key0
   simp -implicitDefEqProofs[h1,h2]
   refine hQ _ _ _ ?_
   simp -implicitDefEqProofs[key0,Gf]
 simp -implicitDefEqProofs[h1,h2]
 refine Ah (Aq6 s hcs) (by simp) (by simp) (by simp[Ag,Aa,Ac,Al,Af,Kd.l,An,Ak]) ?_
 cases h3:C2 s
 · rw[if_pos (.inr (.inr h3))] at key0
   simp -implicitDefEqProofs
   refine hQ _ _ _ ?_
   simp -implicitDefEqProofs[key0,Gf]
 rw[if_neg (by simp[h1,h2,h3])] at key0
 simp -implicitDefEqProofs
 refine Ah (Xf s.op) (by simp) (by simp) (by simp[Ag,Aa,Ac,Al,Af,Kd.l,An,Ak]) ?_
 have hn: ∃n0:Int,n0=1+(if D2 s.op=true then (Ap s.con:Int) else 0)∧1≤n0∧n0≤20001:=by
  refine⟨_,rfl,?_⟩
  split
  · rename_i ho;have:=A0y h3 ho;omega
  · omega
 obtain⟨n0,hn0,hn1,hn2⟩:=hn
 rw[← hn0] at key0
 have loop: ∀(b:Bool),D2 s.op=b→(b=true→n0=1+(Ap s.con:Int))∧(b=false→n0=1):=fun b hb=>by
  subst hb;rw[hn0]; constructor<;>intro h<;>simp[h]
 cases ho:D2 s.op
 case' false=>obtain rfl:n0=1:=(loop _ ho).2 rfl
 case' true=>
  have hn3:=(loop _ ho).1 rfl
  simp -implicitDefEqProofs
  refine Ah (Oo s.con hcs) (by simp) (by simp) (by simp[Aa,Ac]) ?_
  simp -implicitDefEqProofs[← hn3,Ba (n:=n0) (by omega) (by omega)]
 case' false=>simp -implicitDefEqProofs
 all_goals
  clear loop hn0
  refine B5 (AWp.loopI [] (fun n f h G=>∃(k:Nat) (m:Int),k+n=s.l.length∧f 35= .int .i64 k∧f 8= .int .i64 m∧1≤m∧m≤20001∧mSs (s.l.drop k) left depth m=mS s left depth) (s.l.length) (by simp) ⟨0,_,by simp,rfl,rfl,by omega,by omega,by rw[key0]; rfl⟩ ?_)
  rintro n f h G ⟨k,m,hk,h35,h8,hm1,hm2,hs⟩
  refine AWp.run mixed fun Q2 hQ2=>?_
  simp -implicitDefEqProofs[AC.dsts,Au,At,Bo,h35,h8]
  by_cases hlt:k < s.l.length
  · have hd':=List.drop_eq_getElem_cons hlt
    have hrec:=hrec s.l[k] (List.getElem_mem _) (left - m) (depth+1) (by omega) (by omega) (by omega) (by omega)
    simp -implicitDefEqProofs[hlt,Ba (n:=left - m) (by omega) (by omega),Ba (n:=depth+1) (by omega) (by omega)]
    refine Ah hrec (by simp) (Adj _ 0) (by simp[An]) ?_
    cases hv:(mS s.l[k] (left - m) (depth+1)).2
    · have e:mS s left depth=(0,false):=by rw[← hs,hd',mSs,hv]; rfl
      simp -implicitDefEqProofs[Gf,hv]
      refine hQ2 _ _ _ (Dg ?_)
      show KR _ _ Q _ _
      simp -implicitDefEqProofs
      refine hQ _ _ _ ?_
      simp -implicitDefEqProofs[e,Gf]
    · have hle:=Yd _ _ _ hv
      simp -implicitDefEqProofs[Gf,hv,Ba (n:=(k:Int)+1) (by omega) (by omega),Ba (n:=m+(mS s.l[k] (left - m) (depth+1)).1) (by omega) (by omega)]
      refine hQ2 _ _ _ (Cb (n - 1) (h) rfl (by omega) (by simp -implicitDefEqProofs[AC.dsts,Au,At,Aq]) ?_)
      refine⟨k+1,_,by omega,by simp[Aq],by simp[Aq]; rfl,by omega,by omega,?_⟩
      rw[← hs,hd',mSs,if_pos hv]
  · have e:mS s left depth=(m,decide (m≤left)):=by rw[← hs,List.drop_eq_nil_of_le (by omega),mSs]
    simp -implicitDefEqProofs[hlt]
    refine hQ2 _ _ _ (Ce ?_)
    show KE _ 0 _ Q _ _
    simp -implicitDefEqProofs
    refine hQ _ _ _ ?_
    simp -implicitDefEqProofs[e,Gf]
theorem Ae4 (s:Sm) (left depth:Int) (hc:C1 s) (hl0: -1000000≤left) (hl:left≤20000) (hd0:0≤depth) (hd:depth≤1000):Ab Tryz.prog Ks [An s,.int .i64 left,.int .i64 depth] [] (Gf (mS s left depth)) []:=
 Awc s left depth hc hl0 hl hd0 hd fun x hx left depth h1 h2 h3 h4=>Ae4 x left depth (((Hz s).1 hc).2 x hx) h1 h2 h3 h4
termination_by SizeOf.sizeOf s
decreasing_by exact Sm.lt_l ‹_›
theorem Ka (s:Sm) (hc:C1 s):Ab Tryz.prog K8 [An s] [] (.int .i64 (Di s)) []:=by
 refine Ab.go mixed Afd (by simp) fun hfit Q hQ=>?_
 clear hfit
 simp -implicitDefEqProofs[Zg,An]
 refine Ah (Ae4 s 20000 1 hc (by omega) (by omega) (by omega) (by omega)) (by simp) (Adj _ 0) (by simp[An]) ?_
 cases h:(mS s 20000 1).2
 · simp -implicitDefEqProofs[Gf,h]
   refine hQ _ _ _ ?_
   simp -implicitDefEqProofs[Di,Ct,h]
 · simp -implicitDefEqProofs[Gf,h]
   refine hQ _ _ _ ?_
   simp -implicitDefEqProofs[Di,Ct,h]
theorem V4 (s:Sm) (hc:C1 s):Ab Tryz.prog Lx [An s] [] (.bool (Ct s)) []:=by
 refine Ab.go mixed Aga (by simp) fun hfit Q hQ=>?_
 clear hfit
 simp -implicitDefEqProofs[Zu,An]
 refine Ah (Ae4 s 20000 1 hc (by omega) (by omega) (by omega) (by omega)) (by simp) (Adj _ 0) (by simp[An]) ?_
 simp -implicitDefEqProofs[Gf]
 refine hQ _ _ _ ?_
 simp -implicitDefEqProofs[Ct]
theorem Ai0 (hu:Sc) (ks:List Kd) (s:Sm) (hc:C1 s) (hw:wfM s) (hk:ks.length≤1000):Ab Tryz.prog Jy [Aw ks s] [] (cnE (Jj ks s)) []:=by
 refine Ab.go mixed A1j (by simp) fun hfit Q hQ=>?_
 clear hfit
 simp -implicitDefEqProofs[Am5,Aw,Ak s]
 refine Ah (Ajn hu s hc hw) (by simp) (Co _ 0) (by simp[An,Ak s]) ?_
 have hv:=@Aky s
 have e:Jj ks s=if (enc s).2=0 then chS (Cq 10 ks (enc s).1) else (Az,(enc s).2):=rfl
 generalize enc s=p at e hv ⊢
 obtain⟨c,r⟩:=p
 simp only at e hv
 simp -implicitDefEqProofs[cnE,Aa]
 by_cases h0:r=0
 case neg=>
  have h0':(r != 0)=true:=by simpa using h0
  rw[if_neg h0] at e
  simp -implicitDefEqProofs[h0',h0]
  refine hQ _ _ _ ?_
  simp -implicitDefEqProofs[e,cnE,Aa,Cu]
 subst h0
 rw[if_pos rfl] at e
 have hv:=hv rfl
 have hz:Ap (Cq 10 ks c)≤1000000000000:=by rw[Um]; have:=Fp hv;omega
 simp -implicitDefEqProofs
 refine Ah (hu 10 ks c) (by simp) (by simp) (by simp[Aa]) ?_
 simp -implicitDefEqProofs[Aa]
 refine Ah (Po _ hz) (by simp) (Co _ 0) (by simp[Aa]) ?_
 generalize chS (Cq 10 ks c)=q at e ⊢
 obtain⟨c2,e2⟩:=q
 simp -implicitDefEqProofs[cnE,Aa]
 refine hQ _ _ _ ?_
 simp -implicitDefEqProofs[e,cnE,Aa]
theorem Ahp (hu:Sc) (ks:List Kd) (s:Sm) (hc:C1 s):Ab Tryz.prog Ls [Aw ks s] [] (cnE (Fy ks s)) []:=by
 refine Ab.go mixed Ar6 (by simp) fun hfit Q hQ=>?_
 clear hfit
 have hz:=Lk s
 simp -implicitDefEqProofs[Ai7,Aw,Ak s]
 refine Ah (Ka s hc) (by simp) (by simp) (by simp[An,Ak s]) ?_
 cases hf:Ct s
 · have h0:=hz.2 hf
   simp -implicitDefEqProofs[h0]
   refine hQ _ _ _ ?_
   simp -implicitDefEqProofs[Fy,abOk,hf,cnE,Aa,Cu]
 have h0: ¬Di s=0:=fun h=>by rw[hz.1 h] at hf;cases hf
 have h0':(Di s == 0)=false:=by simpa using h0
 by_cases hl:ks.length≤1000
 case neg=>
  have hl':(1000:Int) < ks.length:=by omega
  simp -implicitDefEqProofs[h0,h0',hl']
  refine hQ _ _ _ ?_
  simp -implicitDefEqProofs[Fy,abOk,Ej,hf,hl,cnE,Aa,Cu]
 have hl': ¬(1000:Int) < ks.length:=by omega
 simp -implicitDefEqProofs[h0,h0',hl']
 refine Ah (Mt ks) (by simp) (by simp) (by simp) ?_
 cases hk:ks.all Ee
 · simp -implicitDefEqProofs
   refine hQ _ _ _ ?_
   simp -implicitDefEqProofs[Fy,abOk,Ej,hf,hl,hk,cnE,Aa,Cu]
 · simp -implicitDefEqProofs
   refine Ah (Ai0 hu ks s hc (Ahq hf) hl) (by simp[Aw]) (Co _ 0) (by simp[Aw,Ak s]) ?_
   have e:Fy ks s=Jj ks s:=by simp[Fy,abOk,Ej,hf,hl,hk]
   generalize Jj ks s=p at e ⊢
   obtain⟨c,r⟩:=p
   simp -implicitDefEqProofs[cnE,Aa]
   refine hQ _ _ _ ?_
   simp -implicitDefEqProofs[e,cnE,Aa]
mutual
theorem Q0: ∀k:Kd,kEq k k=true
 | .mk l=>by rw[kEq]; exact Af9 l
theorem Af9: ∀l:List Kd,J8 l l=true
 | []=>rfl
 | x :: xs=>by rw[J8,Q0 x,Af9 xs]; rfl
end
mutual
theorem Mk: ∀c:Cn,C5 c c=true
 | .mk o n s k ns l=>by rw[C5,Q0,Amd l]; simp
theorem Amd: ∀l:List Cn,Kv l l=true
 | []=>rfl
 | x :: xs=>by rw[Kv,Mk x,Amd xs]; rfl
end
end Go.Proofs.YtemdkfnenjpioaaGreatDoor
namespace Go.Proofs.YtemdkfnenjpioaaGreatDoor
open Go
attribute [local simp] Ar aev Ax A7 start AV.cells AV.undef Bc Be Bh Bl Bj AV.isCell Bf A1 Bi
attribute [local simp] fin A9 A8 Bb AV.strip Ay A5 AV.inScope Am A0 As
theorem X6 (l:List Kd):Ab Tryz.prog Pq [.sl .none (l.map Ao),.sl .none (l.map Ao)] [] (.bool true) []:=by
 refine Ab.go mixed A1v (by simp) fun hfit Q hQ=>?_
 have hln:l.length≤1073741824:=by simpa[Bn,AV.fits,A4] using hfit.1.1
 clear hfit
 simp -implicitDefEqProofs[Aps]
 refine B5 (AWp.loopI [] (fun n f h G=>∃k:Nat,k+n=l.length∧f 5= .int .i64 k) (l.length) (by simp) ⟨0,by simp,rfl⟩ ?_)
 rintro n f h G ⟨k,hk,h5⟩
 refine AWp.run mixed fun Q2 hQ2=>?_
 simp -implicitDefEqProofs[AC.dsts,Au,At,Bo,h5]
 by_cases hlt:k < l.length
 · simp -implicitDefEqProofs[hlt]
   refine C3 (by rfl) ?_
   simp -implicitDefEqProofs[hlt]
   have hs:=Ql l[k] l[k]
   rw[Q0] at hs
   refine Bp (hs) (by simp) (by simp) (by simp[Ag,Aa,Ac,Al,Af,Kd.l,An,Ak,Ae,Aj]) ?_
   simp -implicitDefEqProofs[Ba (n:=(k:Int)+1) (by omega) (by omega)]
   refine hQ2 _ _ _ (Cb (n - 1) (h) rfl (by omega) (by simp -implicitDefEqProofs[AC.dsts,Au,At,Aq]) ?_)
   exact⟨k+1,by omega,by simp[Aq]⟩
 · simp -implicitDefEqProofs[hlt]
   refine hQ2 _ _ _ (Ce ?_)
   show KE _ 0 _ Q _ _
   simp -implicitDefEqProofs
   refine hQ _ _ _ ?_
   simp -implicitDefEqProofs
theorem A2h (l:List Cn):Ab Tryz.prog Aba [.sl .none (l.map Ai),.sl .none (l.map Ai)] [] (.bool true) []:=by
 refine Ab.go mixed Ar4 (by simp) fun hfit Q hQ=>?_
 have hln:l.length≤1073741824:=by simpa[Bn,AV.fits,A4] using hfit.1.1
 clear hfit
 simp -implicitDefEqProofs[Afi]
 refine B5 (AWp.loopI [] (fun n f h G=>∃k:Nat,k+n=l.length∧f 5= .int .i64 k) (l.length) (by simp) ⟨0,by simp,rfl⟩ ?_)
 rintro n f h G ⟨k,hk,h5⟩
 refine AWp.run mixed fun Q2 hQ2=>?_
 simp -implicitDefEqProofs[AC.dsts,Au,At,Bo,h5]
 by_cases hlt:k < l.length
 · simp -implicitDefEqProofs[hlt]
   refine C3 (by rfl) ?_
   simp -implicitDefEqProofs[hlt]
   have hs:=Np l[k] l[k]
   rw[Mk] at hs
   refine Bp (hs) (by simp) (by simp) (by simp[Ag,Aa,Ac,Al,Af,Kd.l,An,Ak,Ae,Aj]) ?_
   simp -implicitDefEqProofs[Ba (n:=(k:Int)+1) (by omega) (by omega)]
   refine hQ2 _ _ _ (Cb (n - 1) (h) rfl (by omega) (by simp -implicitDefEqProofs[AC.dsts,Au,At,Aq]) ?_)
   exact⟨k+1,by omega,by simp[Aq]⟩
 · simp -implicitDefEqProofs[hlt]
   refine hQ2 _ _ _ (Ce ?_)
   show KE _ 0 _ Q _ _
   simp -implicitDefEqProofs
   refine hQ _ _ _ ?_
   simp -implicitDefEqProofs
theorem Az4 (a:Sm) (hrec: ∀x ∈ a.l,Ab Tryz.prog Md [An x,An x] [] (.bool true) []):Ab Tryz.prog Md [An a,An a] [] (.bool true) []:=by
 have h1:=Np a.con a.con
 rw[Mk] at h1
 have h2:=Ql a.k a.k
 rw[Q0] at h2
 have h3:=X6 a.ks
 have h4:=X6 a.more
 have h5:=Wk a.names a.names
 rw[beq_self_eq_true] at h5
 refine Ab.go mixed Ax9 (by simp) fun hfit Q hQ=>?_
 have hf:=Rh (c:=a) (by simpa[Bn,An,AV.fits] using hfit.1)
 have hln:a.l.length≤1073741824:=hf.2.2.2.2.1
 clear hfit hf
 simp -implicitDefEqProofs[Apc,An,Ak a]
 refine Ah (h1) (by simp) (by simp) (by simp[Ag,Aa,Ac,Al,Af,Kd.l,An,Ak,Ae,Aj]) ?_
 simp -implicitDefEqProofs
 refine Ah (h2) (by simp) (by simp) (by simp[Ag,Aa,Ac,Al,Af,Kd.l,An,Ak,Ae,Aj]) ?_
 simp -implicitDefEqProofs
 refine Ah (h3) (by simp) (by simp) (by simp[Ag,Aa,Ac,Al,Af,Kd.l,An,Ak,Ae,Aj]) ?_
 simp -implicitDefEqProofs
 refine Ah (h4) (by simp) (by simp) (by simp[Ag,Aa,Ac,Al,Af,Kd.l,An,Ak,Ae,Aj]) ?_
 simp -implicitDefEqProofs
 refine Ah (h5) (by simp) (by simp) (by simp[Ag,Aa,Ac,Al,Af,Kd.l,An,Ak,Ae,Aj]) ?_
 simp -implicitDefEqProofs
 refine B5 (AWp.loopI [] (fun n f h G=>∃k:Nat,k+n=a.l.length∧f 5= .int .i64 k) (a.l.length) (by simp) ⟨0,by simp,rfl⟩ ?_)
 rintro n f h G ⟨k,hk,h5⟩
 refine AWp.run mixed fun Q2 hQ2=>?_
 simp -implicitDefEqProofs[AC.dsts,Au,At,Bo,h5]
 by_cases hlt:k < a.l.length
 · simp -implicitDefEqProofs[hlt]
   refine C3 (by rfl) ?_
   simp -implicitDefEqProofs[hlt]
   refine Bp (hrec a.l[k] (List.getElem_mem _)) (by simp) (by simp) (by simp[Ag,Aa,Ac,Al,Af,Kd.l,An,Ak,Ae,Aj]) ?_
   simp -implicitDefEqProofs[Ba (n:=(k:Int)+1) (by omega) (by omega)]
   refine hQ2 _ _ _ (Cb (n - 1) (h) rfl (by omega) (by simp -implicitDefEqProofs[AC.dsts,Au,At,Aq]) ?_)
   exact⟨k+1,by omega,by simp[Aq]⟩
 · simp -implicitDefEqProofs[hlt]
   refine hQ2 _ _ _ (Ce ?_)
   show KE _ 0 _ Q _ _
   simp -implicitDefEqProofs
   refine hQ _ _ _ ?_
   simp -implicitDefEqProofs
theorem Adg (a:Sm):Ab Tryz.prog Md [An a,An a] [] (.bool true) []:=Az4 a fun x _=>Adg x
termination_by SizeOf.sizeOf a
decreasing_by exact Sm.lt_l ‹_›
theorem Arr (a:Te) (hrec: ∀x ∈ a.l,Ab Tryz.prog Pa [Ae x,Ae x] [] (.bool true) []):Ab Tryz.prog Pa [Ae a,Ae a] [] (.bool true) []:=by
 have h1:=Np a.con a.con
 rw[Mk] at h1
 have h3:=Np a.to a.to
 rw[Mk] at h3
 have h2:=Ql a.k a.k
 rw[Q0] at h2
 have h5:=Wk a.names a.names
 rw[beq_self_eq_true] at h5
 refine Ab.go mixed Aw5 (by simp) fun hfit Q hQ=>?_
 have hf:=W7 (c:=a) (by simpa[Bn,Ae,AV.fits] using hfit.1)
 have hln:a.l.length≤1073741824:=hf.2.2.2.2.1
 clear hfit hf
 simp -implicitDefEqProofs[Ajo,Ae,Aj a]
 refine Ah (h2) (by simp) (by simp) (by simp[Ag,Aa,Ac,Al,Af,Kd.l,An,Ak,Ae,Aj]) ?_
 simp -implicitDefEqProofs
 refine Ah (h5) (by simp) (by simp) (by simp[Ag,Aa,Ac,Al,Af,Kd.l,An,Ak,Ae,Aj]) ?_
 simp -implicitDefEqProofs
 refine Ah (h1) (by simp) (by simp) (by simp[Ag,Aa,Ac,Al,Af,Kd.l,An,Ak,Ae,Aj]) ?_
 simp -implicitDefEqProofs
 refine Ah (h3) (by simp) (by simp) (by simp[Ag,Aa,Ac,Al,Af,Kd.l,An,Ak,Ae,Aj]) ?_
 simp -implicitDefEqProofs
 refine B5 (AWp.loopI [] (fun n f h G=>∃k:Nat,k+n=a.l.length∧f 5= .int .i64 k) (a.l.length) (by simp) ⟨0,by simp,rfl⟩ ?_)
 rintro n f h G ⟨k,hk,h5⟩
 refine AWp.run mixed fun Q2 hQ2=>?_
 simp -implicitDefEqProofs[AC.dsts,Au,At,Bo,h5]
 by_cases hlt:k < a.l.length
 · simp -implicitDefEqProofs[hlt]
   refine C3 (by rfl) ?_
   simp -implicitDefEqProofs[hlt]
   refine Bp (hrec a.l[k] (List.getElem_mem _)) (by simp) (by simp) (by simp[Ag,Aa,Ac,Al,Af,Kd.l,An,Ak,Ae,Aj]) ?_
   simp -implicitDefEqProofs[Ba (n:=(k:Int)+1) (by omega) (by omega)]
   refine hQ2 _ _ _ (Cb (n - 1) (h) rfl (by omega) (by simp -implicitDefEqProofs[AC.dsts,Au,At,Aq]) ?_)
   exact⟨k+1,by omega,by simp[Aq]⟩
 · simp -implicitDefEqProofs[hlt]
   refine hQ2 _ _ _ (Ce ?_)
   show KE _ 0 _ Q _ _
   simp -implicitDefEqProofs
   refine hQ _ _ _ ?_
   simp -implicitDefEqProofs
theorem Zq (a:Te):Ab Tryz.prog Pa [Ae a,Ae a] [] (.bool true) []:=Arr a fun x _=>Zq x
termination_by SizeOf.sizeOf a
decreasing_by exact Te.lt_l ‹_›
theorem Wv (ks:List Kd) (s:Sm):Ab Tryz.prog Aej [Aw ks s,Aw ks s] [] (.bool true) []:=by
 refine Ab.go mixed A1g (by simp) fun hfit Q hQ=>?_
 clear hfit
 simp -implicitDefEqProofs[Ajg,Aw,Ak s]
 refine Ah (X6 ks) (by simp) (by simp) (by simp[Ag,Aa,Ac,Al,Af,Kd.l,An,Ak,Ae,Aj]) ?_
 simp -implicitDefEqProofs
 refine Ah (Adg s) (by simp) (by simp) (by simp[Ag,Aa,Ac,Al,Af,Kd.l,An,Ak,Ae,Aj]) ?_
 simp -implicitDefEqProofs
 refine hQ _ _ _ ?_
 simp -implicitDefEqProofs
theorem Ah6 (e:El):Ab Tryz.prog Adk [Av e,Av e] [] (.bool true) []:=by
 refine Ab.go mixed Au9 (by simp) fun hfit Q hQ=>?_
 clear hfit
 simp -implicitDefEqProofs[Aml,Av,Bd e]
 refine Ah (X6 e.ks) (by simp) (by simp) (by simp[Ag,Aa,Ac,Al,Af,Kd.l,An,Ak,Ae,Aj]) ?_
 simp -implicitDefEqProofs
 refine Ah (A2h e.w) (by simp) (by simp) (by simp[Ag,Aa,Ac,Al,Af,Kd.l,An,Ak,Ae,Aj]) ?_
 simp -implicitDefEqProofs
 refine Ah (Adg e.s) (by simp) (by simp) (by simp[Ag,Aa,Ac,Al,Af,Kd.l,An,Ak,Ae,Aj]) ?_
 simp -implicitDefEqProofs
 refine hQ _ _ _ ?_
 simp -implicitDefEqProofs
end Go.Proofs.YtemdkfnenjpioaaGreatDoor
