/- Joined: T11 T12. -/
import Derived.Test.YtemdkfnenjpioaaGreatDoorG24
set_option linter.unusedSimpArgs false
set_option linter.unusedVariables false
set_option linter.unusedSectionVars false
set_option linter.all false
set_option maxHeartbeats 4000000
set_option maxRecDepth 10000
namespace Go.Proofs.YtemdkfnenjpioaaGreatDoor
open Go Go.RowKit Go.Shelf Go.Proofs
attribute [local simp] Ar aev Ax A7 start AV.cells AV.undef Bc Be Bh Bl Bj AV.isCell Bf A1 Bi
attribute [local simp] fin A9 A8 Bb AV.strip Ay A5 AV.inScope Am A0 As
attribute [local simp] Ca Cg
attribute [-simp] Int.not_lt Int.not_le
def frA1:AC:=.region [⟨some 1,.box (.tmp 0),none⟩,⟨some 2,.mov (.cst (.sl .nilT [])),none⟩,⟨some 3,.mov (.cst (.int .i64 0)),none⟩]
def frA2:AC:=.seq (.region [⟨some 5,.load true 6 (.tmp 1),none⟩,⟨some 6,.call (.cst (.fn (.func D3) [] [])) [.tmp 5],none⟩,⟨some 7,.un .not (.tmp 6),none⟩])
 (.cond (.tmp 7) (.seq (.region [⟨some 2,.mov (.cst (.sl .nilT [])),none⟩,⟨some 3,.mov (.cst (.int .i64 1)),none⟩]) .ret) .skip)
def frA3:AC:=.region [⟨some 4,.alloc [.sl .nilT []],none⟩]
def frA4:AC:=.region [⟨some 8,.load true 6 (.tmp 1),none⟩,⟨some 9,.mkfn (.func Oe) [] [.tmp 4],none⟩,⟨some 10,.call (.cst (.fn (.func Ij) [] [])) [.tmp 8,.cst (.int .i64 0),.tmp 9],none⟩]
abbrev un:AV:=.undef
def frT1 (c:Cn):List AV:=[Aa c,.ptr 0 0,.sl .nilT [],.int .i64 0,un,un,un,un,un,un,un,un,un,un,un]
def frT2 (c:Cn):List AV:=[Aa c,.ptr 0 0,.sl .nilT [],.int .i64 0,un,Aa c,.bool true,.bool false,un,un,un,un,un,un,un]
def frT3 (c:Cn):List AV:=[Aa c,.ptr 0 0,.sl .nilT [],.int .i64 0,.ptr 1 0,Aa c,.bool true,.bool false,un,un,un,un,un,un,un]
def frT4 (c:Cn):List AV:=[Aa c,.ptr 0 0,.sl .nilT [],.int .i64 0,.ptr 1 0,Aa c,.bool true,.bool false,Aa c,.fn (.func Oe) [] [.ptr 1 0],.tup [],un,un,un,un]
theorem fr_h1 (c:Cn):AWp Tryz.prog frA1 (start [Aa c] 15) [] fun e t' H'=>e= .normal∧t'=frT1 c∧H'=[.var (Ai c)]:=by
 refine AWp.run mixed fun Q hQ=>?_
 simp -implicitDefEqProofs[frA1,Aa]
 refine hQ _ _ _ ⟨rfl,?_,?_⟩
 · simp[frT1,Aa]
 · simp
theorem fr_h2 (c:Cn) (hc:Ap c≤1000000000000) (hv:A6 c=true):AWp Tryz.prog frA2 (frT1 c) [.var (Ai c)] fun e t' H'=>e= .normal∧t'=frT2 c∧H'=[.var (Ai c)]:=by
 refine AWp.run mixed fun Q hQ=>?_
 simp -implicitDefEqProofs[frA2,frT1,Aa]
 refine Ah (D5 c hc) (by simp) (by simp) (by simp[Ag,Aa,Ac,Al,Af,Kd.l]) ?_
 simp -implicitDefEqProofs[hv]
 refine hQ _ _ _ ⟨rfl,?_,?_⟩
 · simp[frT2,Aa]
 · simp
theorem fr_h3 (c:Cn):AWp Tryz.prog frA3 (frT2 c) [.var (Ai c)] fun e t' H'=>e= .normal∧t'=frT3 c∧H'=[.var (Ai c),.var [.sl .nilT []]]:=by
 refine AWp.run mixed fun Q hQ=>?_
 simp -implicitDefEqProofs[frA3,frT2,Aa]
 refine hQ _ _ _ ⟨rfl,?_,?_⟩
 · simp[frT3,Aa]
 · simp
theorem fr_h4 (c:Cn) (hv:A6 c=true):AWp Tryz.prog frA4 (frT3 c) [.var (Ai c),.var [.sl .nilT []]] fun e t' H'=>e= .normal∧t'=frT4 c∧H'=frS c (Fl Hk c 0 []):=by
 have hform:C4 c=true:=by simp only[A6,Bool.and_eq_true] at hv;exact hv.2.2
 have hdep:Cp c≤400:=by simp only[A6,Bool.and_eq_true,decide_eq_true_eq] at hv;exact hv.2.1
 have hsz:=Fp hv
 have heach:=Acu (frS_hps c) Oe [.ptr 1 0] (fun n hn=>by simp[Am,AV.inScope]; omega) Hk (fun x=>x.length) 20000 (fun x bd y=>by unfold Hk;split<;>simp)
  (fun x bd y hn h0 h1 hz=>Azf c x bd y hn h0 h1 hz) c 0 [] hform (by omega) (by omega) (by simpa using hsz)
 refine AWp.reserve (A:=[.var (Ai c)]) (B:=[]) (AWp.run mixed fun Q hQ=>?_)
 generalize Fl Hk c 0 []=xs at heach hQ
 simp -implicitDefEqProofs[frA4,frT3,Aa]
 refine Br (r:=.tup []) (by simpa[Aa,frS,frV,frB] using heach) ?_
 simp -implicitDefEqProofs 
 refine hQ _ _ _ ⟨rfl,?_,?_⟩
 · simp[frT4,Aa]
 · rfl
theorem Ad9 {n:Int} (h0:0≤n) (h1:n≤1000000):IntKind.i64.has n:=by
 unfold IntKind.has IntKind.min IntKind.max IntKind.signed IntKind.bits
 simp
 omega
set_option maxRecDepth 100000 in
theorem Afr (c:Cn) (hc:Ap c≤1000000000000): ∃p:List Int × Int,Ab Tryz.prog Wd [Aa c] [] (.tup [.sl .none (Cj p.1),.int .i64 p.2]) []∧(∀ z ∈ p.1,0≤z∧z≤20000)∧p.1.length≤20000:=by
 cases hv:A6 c with
 | false=>
   refine⟨([],1),?_,by simp,by simp⟩
   refine Ab.go mixed A24 (by simp) fun hfit Q hQ=>?_
   clear hfit
   simp -implicitDefEqProofs[Al4,Aa]
   refine Ah (D5 c hc) (by simp) (by simp) (by simp[Ag,Aa,Ac,Al,Af,Kd.l]) ?_
   simp -implicitDefEqProofs[hv]
   refine hQ _ _ _ ?_
   simp -implicitDefEqProofs[]
 | true=>
 have hform:C4 c=true:=by simp only[A6,Bool.and_eq_true] at hv;exact hv.2.2
 have hdep:Cp c≤400:=by simp only[A6,Bool.and_eq_true,decide_eq_true_eq] at hv;exact hv.2.1
 have hbnd:=Agk c 0 [] (by omega) (by omega) (by simp) hform
 have hlen:=Ago Hk (fun x=>x.length) (fun x bd y=>by unfold Hk;split<;>simp) c 0 []
 have hsz:=Fp hv
 simp only[List.length_nil,Nat.zero_add] at hlen
 have h4:=fr_h4 c hv
 generalize Fl Hk c 0 []=xs at hbnd hlen h4
 refine⟨(Lib.compact (Do xs),0),⟨by kernel_rfl,fun F g w vs hG hs hr=>?_⟩,fun z hz=>hbnd z (Aat (Ahg hz)),by
  have h1:=Lib.compact_length_le (Do xs)
  rw[Jl] at h1
  show (Lib.compact (Do xs)).length≤20000
  omega⟩
 refine calls_of_wp Tryz.func192 rfl ?_
 refine Un (A:=frA1) (by kernel_rfl) (Ayj Tryz.ntmps192 hG hs hr) (fr_h1 c) fun F1 g1 w1 a1 hs1 hx1=>?_
 refine Un (A:=frA2) (by kernel_rfl) hs1 (fr_h2 c hc hv) fun F2 g2 w2 a2 hs2 hx2=>?_
 refine Un (A:=frA3) (by kernel_rfl) hs2 (fr_h3 c) fun F3 g3 w3 a3 hs3 hx3=>?_
 refine Un (A:=frA4) (by kernel_rfl) hs3 h4 fun F4 g4 w4 a4 hs4 hx4=>?_
 have hx:=((hx1.trans hx2).trans hx3).trans hx4
 clear hx1 hx2 hx3 hx4 hs1 hs2 hs3 h4
 obtain⟨hst,htm,hdf, -⟩:=hs4
 obtain⟨tm,df⟩:=a4
 simp only at hdf
 subst hdf
 unfold Tm at htm
 simp only[frT4,RL] at htm
 obtain⟨v0,_,e0,r0,v1,_,rfl,r1,v2,_,rfl,r2,v3,_,rfl,r3,v4,_,rfl,r4,v5,_,rfl,r5,v6,_,rfl,r6,v7,_,rfl,r7,v8,_,rfl,r8,v9,_,rfl,r9,v10,_,rfl,r10,v11,_,rfl,r11,v12,_,rfl,r12,v13,_,rfl,r13,v14,_,rfl,r14,rfl⟩:=htm
 obtain rfl:tm= #[v0,v1,v2,v3,v4,v5,v6,v7,v8,v9,v10,v11,v12,v13,v14]:=by apply Array.ext';simpa using e0
 clear e0 r0 r1 r2 r3 r5 r6 r7 r8 r9 r10 r11 r12 r13 r14
 obtain⟨B1,q1,q2,rfl⟩:=E9 r4
 obtain⟨X,us,el,p1,p2,p3,p4,p5⟩:=hst.var 1 _ rfl
 rw[q1] at p1;cases p1
 obtain⟨sv,hus,hsv⟩:=Xk p4
 obtain rfl:us= #[sv]:=by apply Array.ext';simpa using hus
 have hb1:w4.cell? ⟨B1,0,none⟩=some sv:=by simp[World.cell?,p3]
 have hB1:w.heap.size≤B1:=by
  rcases hx.blks 1 B1 (by simp[frS]) q1 with h | h
  · exact absurd h.1 (by simp)
  · exact h
 cases xs with
 | nil=>
   obtain rfl:sv= .slice none 0 0:=by
    obtain⟨_,h | ⟨_,_,_,_,_,_,_,_,_,h⟩⟩:=Ep hsv
    · exact h.2.1
    · exact absurd h (by simp[RT])
   obtain⟨z1,z2⟩:=A1x hs hx
   clear hsv hst hx q1 q2 p2 p3 p4 p5 r4 hr hs hG hus
   go_wp2_with (first
    | (go_at_call 193;refine (Aio _ none 0).mono ?_;rintro e w5 ⟨rfl,rfl⟩)
    | (go_at_call 223;refine (Ayf _ none 0).mono ?_;rintro e w5 ⟨rfl,rfl⟩))
   go_ret2
   refine⟨_,rfl,F,g,?_,z1,z2⟩
   simp only[R,RL]
   refine⟨_,rfl,_,_,rfl,⟨by simp[Do,Lib.compact,Lib.compactUpTo],.inl ⟨by simp[Do,Lib.compact,Lib.compactUpTo],rfl,by simp,by simp⟩⟩,_,_,rfl,⟨rfl,Ad9 (by decide) (by decide)⟩,rfl⟩
 | cons x l=>
   obtain⟨D,cap,rfl,hcap,q3,hmax,hI⟩:=own_ints hst (t:=2) (zs:=x :: l) (by simp) rfl hsv
   have hD:w.heap.size≤D:=by
    rcases hx.blks 2 D (by simp[frS]) q3 with h | h
    · exact absurd h.1 (by simp)
    · exact h
   have hne:B1≠D:=fun e=>by subst e;exact absurd (hst.inj 1 2 B1 q1 q3) (by decide)
   have hB1l:B1 < w4.heap.size:=B9 p3
   have hmax':(x :: l).length≤1073741824:=by simpa[A4] using hmax
   generalize hxs:x :: l=xs at *
   have hsort:=Ajc D cap xs w4 hI (by omega)
   have hcell: ∀w5,Hr w4 D w5→w5.cell? ⟨B1,0,none⟩=some (.slice (some ⟨D,0,none⟩) xs.length cap):=fun w5 h=>(Fs (h.heap B1 hB1l hne)).trans hb1
   have hcomp: ∀w5,G6 w5 D (Do xs)→Calls Tryz.prog 223 #[.slice (some ⟨D,0,none⟩) xs.length cap] w5 fun e w'=>e= .returned (.slice (some ⟨D,0,none⟩) (Lib.compact (Do xs)).length cap)∧Hr w5 D w'∧G6 w' D (Lib.compact (Do xs)):=fun w5 h=>by
    have:=A14 D cap (Do xs) w5 h (by rw[Jl]; exact hcap) (by rw[Jl]; omega)
    rwa [Jl] at this
   have hlc:(Lib.compact (Do xs)).length≤xs.length:=by
    have:=Lib.compact_length_le (Do xs)
    rwa [Jl] at this
   have hbd: ∀z ∈ Lib.compact (Do xs),IntKind.i64.has z:=fun z hz=>by
    have:=hbnd z (Aat (Ahg hz))
    exact Ad9 (by omega) (by omega)
   have hout: ∀w6,Hr w4 D w6→G6 w6 D (Lib.compact (Do xs))→_:=fun w6 h1 h2=>ints_out hs hx (B:=D) (cap:=cap) (zs:=Lib.compact (Do xs)) hD h1 h2 (by omega) (by unfold A4;omega) hbd
   clear hsv hst hx q1 q2 q3 p2 p3 p4 p5 r4 hr hs hG hus hxs hlen hbnd hI hmax hmax' hcap hB1l hD hB1 hbd hne
   go_wp2_with (first
    | (go_at_call 193;refine hsort.mono ?_;rintro e w5 ⟨rfl,hz⟩; have hb5:=hcell w5 hz.1;have hc5:=hcomp w5 hz.2)
    | (go_at_call 223;refine hc5.mono ?_;rintro e w6 ⟨rfl,hy⟩))
   go_ret2
   obtain⟨F2,z1,z2,z3⟩:=hout w6 (hz.1.trans hy.1) hy.2
   refine⟨_,rfl,F2,g,?_,z2,z3⟩
   simp only[R,RL] at z1 ⊢
   exact⟨_,rfl,_,_,rfl,z1,_,_,rfl,⟨rfl,Ad9 (by decide) (by decide)⟩,rfl⟩
end Go.Proofs.YtemdkfnenjpioaaGreatDoor
namespace Go.Proofs.YtemdkfnenjpioaaGreatDoor
open Go
attribute [local simp] Ar aev Ax A7 start AV.cells AV.undef Bc Be Bh Bl Bj AV.isCell Bf A1 Bi
attribute [local simp] fin A9 A8 Bb AV.strip Ay A5 AV.inScope Am A0 As
attribute [local simp] Ca Cg
attribute [-simp] Int.not_lt Int.not_le
noncomputable def frL (c:Cn):List Int × Int:=if h:Ap c≤1000000000000 then Classical.choose (Afr c h) else ([],0)
theorem Al1 (c:Cn) (hc:Ap c≤1000000000000):Ab Tryz.prog Wd [Aa c] [] (.tup [.sl .none (Cj (frL c).1),.int .i64 (frL c).2]) []∧(∀ z ∈ (frL c).1,0≤z∧z≤20000)∧(frL c).1.length≤20000:=by
 unfold frL
 rw[dif_pos hc]
 exact Classical.choose_spec (Afr c hc)
def Lw (a:Int):List Int→List Nat→List Nat
 | [],ks=>ks
 | z :: l,ks=>Lw a l (if a≤z then Iu (z - a).toNat ks else ks)
def fwS (t:Te) (x:List Nat × List Nat):List HB:=[.var (Bm t),.mp x.1,.mp x.2,.var [.mapv 1],.var [.mapv 2]]
theorem Apz (t:Te):Hps (fwS t) 5:=⟨fun _=>rfl,fun x k hk=>by simp[fwS,As,Am,AV.inScope]; omega⟩
noncomputable def fwC (c:Cn) (a _b:Int) (x:List Nat × List Nat):List Nat × List Nat:=(Lw a (frL c).1 x.1,x.2)
def fwV (n _a b:Int) (x:List Nat × List Nat):List Nat × List Nat:=if b≤n then (x.1,Iu (n - b).toNat x.2) else x
theorem Ax5 (t:Te) (c:Cn) (a b:Int) (x:List Nat × List Nat) (hc:Ap c≤1000000000000) (h0:0≤a) (h1:a≤1000):
 Ab Tryz.prog X1 ([Aa c,uAV a b]++[.ptr 3 0]) (fwS t x) (.tup []) (fwS t (fwC c a b x)):=by
 obtain⟨hfr,hb,hll⟩:=Al1 c hc
 unfold fwC
 generalize frL c=p at hfr hb hll
 obtain⟨l,e⟩:=p
 simp only at hfr hb hll
 have hsc:=(Apz t).sc
 refine Ab.go mixed Azj (by simp[fwS]) fun hfit Q hQ=>?_
 clear hfit
 simp -implicitDefEqProofs[Aqw,Aa,Ac c,uAV,fwS]
 refine Ah hfr (by simp) (by simp) (by simp[Aa,Ac c]) ?_
 simp -implicitDefEqProofs 
 refine B5 (AWp.loopS (fwS t) (fun n f s G=>∃k:Nat,k+n=l.length∧f 16= .int .i64 k∧Lw a (l.drop k) s.1=Lw a l x.1∧s.2=x.2∧G=[.var [.int .i64 c.op,.int .i64 c.n,.str c.s,.sl .none (c.k.l.map Ao),.sl .none (Af c.names),.sl .none (c.l.map Ai)],.var [.int .i64 a,.int .i64 b]])
  l.length x [.var [.int .i64 c.op,.int .i64 c.n,.str c.s,.sl .none (c.k.l.map Ao),.sl .none (Af c.names),.sl .none (c.l.map Ai)],.var [.int .i64 a,.int .i64 b]] (by simp[fwS]) ⟨0,by simp,rfl,by simp,rfl,rfl⟩ ?_)
 rintro n f ⟨k1,k2⟩ G ⟨k,hk,h16,he,hs2,rfl⟩
 simp only at he hs2
 refine AWp.run mixed fun Q2 hQ2=>?_
 simp -implicitDefEqProofs[AC.dsts,Au,At,Bo,h16,fwS]
 by_cases hlt:k < l.length
 · have hd:=List.drop_eq_getElem_cons hlt
   have hz:=hb l[k] (List.getElem_mem _)
   have hw:=Ba (n:=l[k] - a) (by omega) (by omega)
   rw[hd,Lw] at he
   have hg: ∀h:k < (Cj l).length,(Cj l)[k]'h=[.int .i64 l[k]]:=fun h=>by simp[Cj]
   by_cases hle:a≤l[k]
   · rw[if_pos hle] at he
     have hm:l[k] < Gb+a:=by unfold Gb;omega
     have hm2:l[k] - a < Gb:=by omega
     simp -implicitDefEqProofs[hlt,hg,hle,hw,hm,hm2,Ba (n:=(k:Int)+1) (by omega) (by omega)]
     refine hQ2 _ _ _ (Ia (n - 1) (Iu (l[k] - a).toNat k1,k2) (G':=[.var [.int .i64 c.op,.int .i64 c.n,.str c.s,.sl .none (c.k.l.map Ao),.sl .none (Af c.names),.sl .none (c.l.map Ai)],.var [.int .i64 a,.int .i64 b]]) (by simp[fwS]) (by omega) (by simp -implicitDefEqProofs[AC.dsts,Au,At,Aq]) ?_)
     exact⟨k+1,by omega,by simp[Aq],he,hs2,rfl⟩
   · rw[if_neg hle] at he
     simp -implicitDefEqProofs[hlt,hg,hle,Ba (n:=(k:Int)+1) (by omega) (by omega)]
     refine hQ2 _ _ _ (Ia (n - 1) (k1,k2) (G':=[.var [.int .i64 c.op,.int .i64 c.n,.str c.s,.sl .none (c.k.l.map Ao),.sl .none (Af c.names),.sl .none (c.l.map Ai)],.var [.int .i64 a,.int .i64 b]]) (by simp[fwS]) (by omega) (by simp -implicitDefEqProofs[AC.dsts,Au,At,Aq]) ?_)
     exact⟨k+1,by omega,by simp[Aq],he,hs2,rfl⟩
 · rw[List.drop_eq_nil_of_le (by omega),Lw] at he
   simp -implicitDefEqProofs[hlt]
   refine hQ2 _ _ _ (Jm ?_)
   show KE _ 0 _ Q _ _
   simp -implicitDefEqProofs 
   refine hQ _ _ _ ?_
   simp -implicitDefEqProofs[fwS,he,hs2]
theorem Avz (t:Te) (n a b:Int) (x:List Nat × List Nat) (hn0:0≤n) (hn1:n≤20000) (h0:0≤b) (h1:b≤1000):
 Ab Tryz.prog Wy ([.int .i64 n,uAV a b]++[.ptr 4 0]) (fwS t x) (.tup []) (fwS t (fwV n a b x)):=by
 obtain⟨k1,k2⟩:=x
 refine Ab.go mixed Arg (by simp[fwS]) fun hfit Q hQ=>?_
 clear hfit
 have hw:=Ba (n:=n - b) (by omega) (by omega)
 by_cases hle:b≤n
 · have hm2:n - b < Gb:=by unfold Gb;omega
   have hm3:n < Gb+b:=by omega
   simp -implicitDefEqProofs[Zn,uAV,fwS,hle,hw,hm2,hm3]
   refine hQ _ _ _ ?_
   simp -implicitDefEqProofs[fwS,fwV,hle]
 · simp -implicitDefEqProofs[Zn,uAV,fwS,hle]
   refine hQ _ _ _ ?_
   simp -implicitDefEqProofs[fwS,fwV,hle]
theorem free_Wlk (t:Te):Wlk (fwS t) 5 X1 Wy [.ptr 3 0] [.ptr 4 0] fwC fwV where
 hps:=Apz t
 con c a b x hv g0 _ g1 _:=Ax5 t c a b x (by have:=Fp hv;omega) g0 g1
 var n a b x n0 n1 _ g0 _ g1:=Avz t n a b x n0 n1 g0 g1
 c1 n hn:=by simp[Am,AV.inScope]; omega
 c2 n hn:=by simp[Am,AV.inScope]; omega
end Go.Proofs.YtemdkfnenjpioaaGreatDoor
