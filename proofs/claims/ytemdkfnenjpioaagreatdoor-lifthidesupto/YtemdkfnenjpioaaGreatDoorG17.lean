/- Joined: K24 K25 K30 K31 K32 K35 D36. -/
import Derived.Test.YtemdkfnenjpioaaGreatDoorG16
set_option linter.unusedSimpArgs false
set_option linter.unusedVariables false
set_option linter.unusedSectionVars false
set_option linter.all false
set_option maxHeartbeats 4000000
set_option maxRecDepth 10000
namespace Go.Proofs.YtemdkfnenjpioaaGreatDoor
open Go
attribute [local simp] Ar aev Ax A7 start AV.cells AV.undef Bc Be Bh Bl Bj AV.isCell Bf A1 Bi
attribute [local simp] fin A9 A8 Bb AV.strip Ay A5 AV.inScope Am A0 As
def Cq (op:Int) (ks:List Kd) (c:Cn):Cn:=ks.foldr (Hd op) c
theorem Yn {A L0 H:List HB} {V:Nat→Bool} (hA: ∀b,b < A.length→∃cs,A[b]? =some (.var cs)) (hV: ∀b,b < A.length→V b=true) (h:Cd V (A++L0) H): ∃L,H=A++L:=by
 have hg: ∀b,b < A.length→H[b]? =A[b]?:=fun b hb=>by
  obtain⟨cs,hcs⟩:=hA b hb
  rw[hcs]
  exact h b cs (hV b hb) (by rw[List.getElem?_append_left hb]; exact hcs)
 refine⟨H.drop A.length,?_⟩
 apply List.ext_getElem?
 intro b
 by_cases hb:b < A.length
 · rw[List.getElem?_append_left hb,hg b hb]
 · rw[List.getElem?_append_right (by omega),List.getElem?_drop]
   congr 1;omega
theorem keep_mid (A:List HB) (x y:HB) (L:List HB):Cd (fun b=>b != A.length) (A++x :: L) (A++y :: L):=by
 intro b cs hV hb
 by_cases hlt:b < A.length
 · rw[List.getElem?_append_left hlt] at hb ⊢; exact hb
 · have hne:b≠A.length:=by simpa using hV
   rw[List.getElem?_append_right (by omega)] at hb ⊢
   obtain⟨j,hj⟩: ∃j,b - A.length=j+1:=⟨b - A.length - 1,by omega⟩
   rw[hj,List.getElem?_cons_succ] at hb ⊢
   exact hb
theorem Acr {e:TypeId} {P:Program} {V:Nat→Bool} {nq:List Nat} {H0 H:List HB} {n:Nat} (A G:List HB) (hH:H=A++G) {tok:Tok} {els:List (List AV)} {k:Nat} {row:List AV} {dst:Option Nat} {l:List AO} {kf:List Fr} {Q:Bg} {t:List AV} (h:owns A.length G tok els k) (hl:els.length+1≤A4) (hk:C0 k els=true) (hr:row.length=k)
 (hn: ∀tok' G',owns A.length G' tok' (els++[row]) k→G.length≤G'.length→DR P V nq H0 (n+1) l kf Q (Ax t dst (.sl tok' (els++[row]))) (A++G')):En P V nq H0 n (C7 k e tok els [row] H) dst l kf Q t:=by
 subst hH
 exact Pm h hl hk hr hn
structure Lg (lf:Nat) (cap:List AV) (A:List HB) (L:Cn→Int→Cn):Prop where
 call: ∀c bd,Ab Tryz.prog lf ([Aa c,.int .i64 bd]++cap) A (Aa (L c bd)) A
 vars: ∀b,b < A.length→∃cs,A[b]? =some (.var cs)
 sc: ∀n,A.length≤n→As n A=true
 csc: ∀n,A.length≤n→Am n cap=true
 strip:Ay cap=cap
 size: ∀c bd,Ap (L c bd)≤1000000000000
def G8 (d fr:Int) (c:Cn) (bd:Int):Cn:=if c.op=1∧fr≤IntKind.i64.wrap (c.n - bd) then Ef (IntKind.i64.wrap (c.n+d)) else Lo c
theorem Ayh (c:Cn) (bd d fr:Int) (A:List HB) (i j:Nat) (hi:A[i]? =some (.var [.int .i64 fr])) (hj:A[j]? =some (.var [.int .i64 d])) (hsc:As A.length A=true):
 Ab Tryz.prog Ig [Aa c,.int .i64 bd,.ptr i 0,.ptr j 0] A (Aa (G8 d fr c bd)) A:=by
 have hil:=(List.getElem?_eq_some_iff.1 hi).1
 have hjl:=(List.getElem?_eq_some_iff.1 hj).1
 have hi': ∀L:List HB,(A++L)[i]? =some (.var [.int .i64 fr]):=fun L=>by rw[List.getElem?_append_left hil]; exact hi
 have hj': ∀L:List HB,(A++L)[j]? =some (.var [.int .i64 d]):=fun L=>by rw[List.getElem?_append_left hjl]; exact hj
 refine Ab.go mixed As9 (by simp) fun hfit Q hQ=>?_
 clear hfit
 simp -implicitDefEqProofs[Ag2,Aa,Ac c,Ca]
 by_cases h1:c.op=1
 · by_cases h2:fr≤IntKind.i64.wrap (c.n - bd)
   · simp -implicitDefEqProofs[h1,hi',h2,hj']
     refine Ah (Afg (IntKind.i64.wrap (c.n+d))) (by simp) (by simp) (by simp[Ag,Aa,Ac,Al,Af,Kd.l]) ?_
     simp -implicitDefEqProofs[Aa]
     refine hQ _ _ _ ?_
     simp -implicitDefEqProofs[G8,h1,h2,Aa,hsc]
   · simp -implicitDefEqProofs[h1,hi',h2]
     refine Ah (Wb c) (by simp) (by simp) (by simp[Aa,Ac,h1]) ?_
     simp -implicitDefEqProofs[Aa]
     refine hQ _ _ _ ?_
     simp -implicitDefEqProofs[G8,h1,h2,Aa,hsc]
 · simp -implicitDefEqProofs[h1]
   refine Ah (Wb c) (by simp) (by simp) (by simp[Ag,Aa,Ac,Al,Af,Kd.l]) ?_
   simp -implicitDefEqProofs[Aa]
   refine hQ _ _ _ ?_
   simp -implicitDefEqProofs[G8,h1,Aa,hsc]
theorem Abu (d fr:Int) (A:List HB) (hsc: ∀n,A.length≤n→As n A=true):Ab Tryz.prog Ot [.int .i64 d,.int .i64 fr] A (.fn (.func Ig) [] [.ptr (A.length+1) 0,.ptr A.length 0]) (A++[.var [.int .i64 d],.var [.int .i64 fr]]):=by
 have h2:=hsc (A.length+2) (by omega)
 refine Ab.go mixed A2i (by simp) fun hfit Q hQ=>?_
 clear hfit
 simp -implicitDefEqProofs[Amx]
 refine hQ _ _ _ ?_
 simp -implicitDefEqProofs[Ei,h2]
mutual
def reb (L:Cn→Int→Cn):Cn→Int→Int→Cn × Int
 | .mk o n s k ns l,bd,left=>if left≤0 then (Az, -1) else if o=1∨o=2 then (L (.mk o n s k ns l) bd,left - Ap (L (.mk o n s k ns l) bd)) else
  (.mk o n s k ns (Ci L l (if opB o=true then IntKind.i64.wrap (bd+1) else bd) (left - 1)).1,(Ci L l (if opB o=true then IntKind.i64.wrap (bd+1) else bd) (left - 1)).2)
def Ci (L:Cn→Int→Cn):List Cn→Int→Int→List Cn × Int
 | [],_,left=>([],left)
 | c :: cs,bd,left=>((reb L c bd left).1 :: (Ci L cs bd (reb L c bd left).2).1,(Ci L cs bd (reb L c bd left).2).2)
end
def Dn (op bd:Int):Int:=if opB op=true then IntKind.i64.wrap (bd+1) else bd
theorem Adh (L:Cn→Int→Cn) (c:Cn) (bd left:Int):reb L c bd left=if left≤0 then (Az, -1) else if c.op=1∨c.op=2 then (L c bd,left - Ap (L c bd)) else
 (.mk c.op c.n c.s c.k c.names (Ci L c.l (Dn c.op bd) (left - 1)).1,(Ci L c.l (Dn c.op bd) (left - 1)).2):=by
 cases c;rw[reb]; rfl
mutual
theorem Ahr (L:Cn→Int→Cn) (hL: ∀c bd,Ap (L c bd)≤1000000000000): ∀(c:Cn) (bd left:Int), -1000000000000≤left→left≤20000→-1000000000000≤(reb L c bd left).2∧(reb L c bd left).2≤20000
 | .mk o n s k ns l,bd,left,h1,h2=>by
   rw[reb]
   split
   · simp
   · split
     · have:=hL (.mk o n s k ns l) bd
       simp only;omega
     · exact Zh L hL l _ (left - 1) (by omega) (by omega)
theorem Zh (L:Cn→Int→Cn) (hL: ∀c bd,Ap (L c bd)≤1000000000000): ∀(l:List Cn) (bd left:Int), -1000000000000≤left→left≤20000→-1000000000000≤(Ci L l bd left).2∧(Ci L l bd left).2≤20000
 | [],_,_,h1,h2=>⟨h1,h2⟩
 | c :: cs,bd,left,h1,h2=>by
   rw[Ci]
   have:=Ahr L hL c bd left h1 h2
   exact Zh L hL cs bd _ this.1 this.2
end
theorem Ae8 (L:Cn→Int→Cn): ∀(l:List Cn) (c:Cn) (bd left:Int),Ci L (l++[c]) bd left=((Ci L l bd left).1++[(reb L c bd (Ci L l bd left).2).1],(reb L c bd (Ci L l bd left).2).2)
 | [],c,bd,left=>by simp[Ci]
 | x :: xs,c,bd,left=>by rw[List.cons_append,Ci,Ae8 L xs c bd,Ci]; simp
theorem Ag4 (L:Cn→Int→Cn): ∀(l:List Cn) (bd left:Int),(Ci L l bd left).1.length=l.length
 | [],_,_=>rfl
 | x :: xs,bd,left=>by rw[Ci]; simp[Ag4 L xs]
theorem Aw2 (lf:Nat) (cap:List AV) (A:List HB) (L:Cn→Int→Cn) (hL:Lg lf cap A L) (c:Cn) (bd left:Int) (hl1: -1000000000000≤left) (hl2:left≤20000)
 (hrec: ∀x ∈ c.l,∀bd left, -1000000000000≤left→left≤20000→Ab Tryz.prog Ny [.ptr A.length 0,Aa x,.int .i64 bd] (A++[.var [.fn (.func lf) [] cap,.int .i64 left]]) (Aa (reb L x bd left).1) (A++[.var [.fn (.func lf) [] cap,.int .i64 (reb L x bd left).2]])):
 Ab Tryz.prog Ny [.ptr A.length 0,Aa c,.int .i64 bd] (A++[.var [.fn (.func lf) [] cap,.int .i64 left]]) (Aa (reb L c bd left).1) (A++[.var [.fn (.func lf) [] cap,.int .i64 (reb L c bd left).2]]):=by
 have key:=Adh L c bd left
 have hs1:=hL.sc (A.length+1) (by omega)
 have hs2:=hL.csc (A.length+1) (by omega)
 refine Ab.go mixed Au0 (by simp) fun hfit Q hQ=>?_
 have hf:=H8 (c:=c) (by simpa[Bn,Aa,AV.fits] using hfit.2.1)
 have hln:c.l.length≤1073741824:=hf.2.2.2.2.2.2.2.1
 clear hfit hf
 simp -implicitDefEqProofs[-A3,An8,Aa,Ac c]
 rw[A3]
 simp -implicitDefEqProofs[-A3]
 by_cases h0:left≤0
 · rw[if_pos h0] at key
   simp -implicitDefEqProofs[h0]
   refine hQ _ _ _ ?_
   simp -implicitDefEqProofs[key,Aa,Cu,Ei,hs1,hs2]
 rw[if_neg h0] at key
 simp -implicitDefEqProofs[h0]
 by_cases h1:c.op=1∨c.op=2
 · rw[if_pos h1] at key
   have hsz:=hL.size c bd
   have hgo: ∀(K:Prop),(c.op=1→K)→(c.op=2→K)→K:=fun K a b=>h1.elim a b
   refine hgo _ (fun h=>?_) (fun h=>?_)
   all_goals
    simp -implicitDefEqProofs[h,Ca]
    refine C3 (by rfl) ?_
    simp -implicitDefEqProofs
    refine Vb (r:=Aa (L c bd)) (fun H hH=>?_) ?_
    · obtain⟨M,rfl⟩:=Yn hL.vars (fun _ _=>rfl) hH
      have:=(hL.call c bd).suffix rfl (by simp[Am,hL.csc _ (Nat.le_refl _)]) (hL.sc _ (Nat.le_refl _)) M
      simpa[Aa,Ac c,h] using this
    simp -implicitDefEqProofs[Aa]
    refine C3 (by rfl) ?_
    simp -implicitDefEqProofs
    refine Bp (Oo (L c bd) hsz) (by simp) (by simp) (by simp[Aa]) ?_
    simp -implicitDefEqProofs[Ba (n:=left - Ap (L c bd)) (by omega) (by omega)]
    refine hQ _ _ _ ?_
    simp -implicitDefEqProofs[key,Aa,Ei,hs1,hs2]
 rw[if_neg h1] at key
 have h1a: ¬c.op=1:=fun h=>h1 (.inl h)
 have h1b: ¬c.op=2:=fun h=>h1 (.inr h)
 obtain⟨ub,hub⟩: ∃ub,ub=Dn c.op bd:=⟨_,rfl⟩
 rw[← hub] at key
 have hB:(opB c.op=false∧bd=ub)∨(opB c.op=true∧IntKind.i64.wrap (bd+1)=ub):=by
  rw[hub,Dn]; cases opB c.op<;>simp
 clear hub
 simp -implicitDefEqProofs[h1a,h1b,Ca,Ba (n:=left - 1) (by omega) (by omega)]
 refine C3 (by rfl) ?_
 simp -implicitDefEqProofs
 refine Bp (Acl c.k) (by simp) (by simp) (by simp[Ag,Aa,Ac,Al,Af,Kd.l]) ?_
 simp -implicitDefEqProofs
 refine Bp (Nf c.names) (by simp) (by simp) (by simp[Ag,Aa,Ac,Al,Af,Kd.l]) ?_
 simp -implicitDefEqProofs[Ag,Al c.k]
 refine Ah (R4 c) (by simp) (by simp) (by simp[Ag,Aa,Ac,Al,Af,Kd.l]) ?_
 have hl3: -1000000000000≤left - 1:=by omega
 have hl4:left - 1≤20000:=by omega
 generalize left - 1=lf1 at key hl3 hl4 ⊢
 rcases hB with⟨hB,hub⟩ | ⟨hB,hub⟩
 all_goals
  simp -implicitDefEqProofs[hB,hub]
  refine B5 (AWp.loopI [A.length,A.length+3] (fun n f h G=>∃k tok,k+n=c.l.length∧f 72= .int .i64 (k:Nat)∧h A.length=[.fn (.func lf) [] cap,.int .i64 (Ci L (c.l.take k) ub lf1).2]∧
   h (A.length+3)=[.int .i64 c.op,.int .i64 c.n,.str c.s,.sl .none (c.k.l.map Ao),.sl .none (Af c.names),.sl tok ((Ci L (c.l.take k) ub lf1).1.map Ai)]∧
   owns (A.length+4) G tok ((Ci L (c.l.take k) ub lf1).1.map Ai) 6) c.l.length (by simp) ⟨0,.nilT,by simp,rfl,by simp[Dx,Ci],by simp[Dx,Ci],E7 _ _ _⟩ ?_)
  rintro n f h G ⟨k,tok,hk,h72,hm,ho,hown⟩
  refine AWp.run mixed fun Q2 hQ2=>?_
  simp -implicitDefEqProofs[AC.dsts,Au,At,Bo,h72,hm,ho]
  by_cases hlt:k < c.l.length
  · have hbn:=Zh L hL.size (c.l.take k) ub lf1 hl3 hl4
    have hrec:=hrec c.l[k] (List.getElem_mem _) ub (Ci L (c.l.take k) ub lf1).2 hbn.1 hbn.2
    have hts:Ci L (c.l.take (k+1)) ub lf1=((Ci L (c.l.take k) ub lf1).1++[(reb L c.l[k] ub (Ci L (c.l.take k) ub lf1).2).1],(reb L c.l[k] ub (Ci L (c.l.take k) ub lf1).2).2):=by
     rw[Afj _ _ hlt,Ae8]
    have hlen:=Ag4 L (c.l.take k) ub lf1
    rw[List.length_take] at hlen
    simp -implicitDefEqProofs[hlt]
    refine Iy (fun b=>b != A.length) [5] (by rfl) ?_
    simp -implicitDefEqProofs
    refine Hl (first:=[]) (cap:=[]) (r:=Aa (reb L c.l[k] ub (Ci L (c.l.take k) ub lf1).2).1) (by simpa[Aa] using hrec.suffix (by simp) (by simp[Am,AV.inScope]) (by simp[Ei,As,Am,AV.inScope,hs1,hs2]) _) (keep_mid A _ _ _) ?_
    simp -implicitDefEqProofs[Aa,A1]
    refine Acr (A++[_,_,_,_]) (G++[_]) (by simp only[List.append_assoc,List.cons_append,List.nil_append]; rfl) (by simpa using E5 hown) (by simp[A4]; omega) (Ek _ _ Hs) (by simp) fun tok' G' hown' hG'=>?_
    simp -implicitDefEqProofs[Ba (n:=(k:Int)+1) (by omega) (by omega)]
    refine hQ2 _ _ _ (Cb (n - 1) (fun b=>if b=A.length then [.fn (.func lf) [] cap,.int .i64 (Ci L (c.l.take (k+1)) ub lf1).2] else [.int .i64 c.op,.int .i64 c.n,.str c.s,.sl .none (c.k.l.map Ao),.sl .none (Af c.names),.sl tok' ((Ci L (c.l.take (k+1)) ub lf1).1.map Ai)]) (G':=G') (by simp[Bo,hts]) (by omega) (by simp -implicitDefEqProofs[AC.dsts,Au,At,Aq]) ?_)
    refine⟨k+1,tok',by omega,by simp[Aq],by simp,by simp,?_⟩
    rw[hts]
    simpa using hown'
  · have hkl:c.l.take k=c.l:=List.take_of_length_le (by omega)
    rw[hkl] at hm ho hown
    simp -implicitDefEqProofs[hlt,hkl]
    refine hQ2 _ _ _ (Ce ?_)
    show KE _ 0 _ Q _ _
    simp -implicitDefEqProofs
    refine hQ _ _ _ ?_
    simp -implicitDefEqProofs[key,Aa,Ga,Ei,hs1,hs2]
theorem Yu (lf:Nat) (cap:List AV) (A:List HB) (L:Cn→Int→Cn) (hL:Lg lf cap A L) (c:Cn) (bd left:Int) (hl1: -1000000000000≤left) (hl2:left≤20000):
 Ab Tryz.prog Ny [.ptr A.length 0,Aa c,.int .i64 bd] (A++[.var [.fn (.func lf) [] cap,.int .i64 left]]) (Aa (reb L c bd left).1) (A++[.var [.fn (.func lf) [] cap,.int .i64 (reb L c bd left).2]]):=
 Aw2 lf cap A L hL c bd left hl1 hl2 fun x _ bd left h1 h2=>Yu lf cap A L hL x bd left h1 h2
termination_by SizeOf.sizeOf c
decreasing_by exact Cn.lt_l ‹_›
end Go.Proofs.YtemdkfnenjpioaaGreatDoor
namespace Go.Proofs.YtemdkfnenjpioaaGreatDoor
open Go
attribute [local simp] Ar aev Ax A7 start AV.cells AV.undef Bc Be Bh Bl Bj AV.isCell Bf A1 Bi
attribute [local simp] fin A9 A8 Bb AV.strip Ay A5 AV.inScope Am A0 As
attribute [local simp] Ca Cg
attribute [-simp] Int.not_lt Int.not_le
theorem Lg.more {lf:Nat} {cap:List AV} {A:List HB} {L:Cn→Int→Cn} (h:Lg lf cap A L) (M:List HB) (hv: ∀b,b < M.length→∃cs,M[b]? =some (.var cs)) (hs: ∀n,A.length+M.length≤n→As n M=true):Lg lf cap (A++M) L where
 call c bd:=(h.call c bd).suffix rfl (by simp[Am,h.csc _ (Nat.le_refl _)]) (h.sc _ (Nat.le_refl _)) M
 vars b hb:=by
  by_cases hlt:b < A.length
  · rw[List.getElem?_append_left hlt]; exact h.vars b hlt
  · rw[List.getElem?_append_right (by omega)]
    exact hv _ (by simp at hb;omega)
 sc n hn:=by
  simp only[List.length_append] at hn
  rw[Ei,h.sc n (by omega),hs n hn]; rfl
 csc n hn:=h.csc n (by simp at hn;omega)
 strip:=h.strip
 size:=h.size
theorem Ad2 {c:Cn} (h:C4 c=true) (ho:c.op=1):0≤c.n∧c.n≤20000:=by
 rw[W6] at h
 simp only[Jo,Bool.and_eq_true] at h
 have h2:=h.1.2.1
 simp only[n2,ho,true_or,if_true,Bool.not_eq_true',Bool.or_eq_false_iff,decide_eq_false_iff_not] at h2
 omega
theorem Wc {c x:Cn} (h:C4 c=true) (hx:x ∈ c.l):C4 x=true:=by
 rw[W6] at h
 simp only[Bool.and_eq_true,List.all_eq_true] at h
 exact h.2 x hx
theorem Azq (m:Nat) (cap:List AV) (A:List HB) (hsc: ∀n,A.length≤n→As n A=true) (hcap: ∀n,A.length≤n→Am n cap=true)
 (hcb: ∀(c:Cn) (bd:Int),(c.op=1→0≤c.n∧c.n≤20000)→0≤bd→bd≤1000→Ab Tryz.prog m ([Aa c,.int .i64 bd]++cap) A (.tup []) A)
 (c:Cn) (bd:Int) (hform:C4 c=true) (h0:0≤bd) (hd:bd+Cp c≤1000)
 (hrec: ∀x ∈ c.l,∀bd:Int,0≤bd→bd+Cp x≤1000→Ab Tryz.prog Ij [Aa x,.int .i64 bd,.fn (.func m) [] cap] A (.tup []) A):
 Ab Tryz.prog Ij [Aa c,.int .i64 bd,.fn (.func m) [] cap] A (.tup []) A:=by
 have hsA:=hsc A.length (Nat.le_refl _)
 have hcA:=hcap A.length (Nat.le_refl _)
 have hcb:=fun (L:List HB)=>(hcb c bd (Ad2 hform) h0 (by omega)).suffix rfl (by simp[Am,hcA]) hsA L
 have hdep:=K9 c
 refine Ab.go mixed Afm (by simp) fun hfit Q hQ=>?_
 have hf:=H8 (c:=c) (by simpa[Bn,Aa,AV.fits] using hfit.1)
 have hln:c.l.length≤1073741824:=hf.2.2.2.2.2.2.2.1
 clear hfit hf
 have hB:(opB c.op=false∧bd=Dn c.op bd)∨(opB c.op=true∧IntKind.i64.wrap (bd+1)=Dn c.op bd):=by
  rw[Dn]; cases opB c.op<;>simp
 have hub:0≤Dn c.op bd∧Dn c.op bd≤bd+1:=by
  rw[Dn]; split
  · rw[Ba (by omega) (by omega)]; omega
  · omega
 generalize Dn c.op bd=ub at hB hub
 simp -implicitDefEqProofs[-A3,Y7,Aa,Ac c]
 rw[A3]
 simp -implicitDefEqProofs[-A3]
 refine E2 (fun f=>True) (fun Q' hn hr=>?_) (fun f hI=>?_)
 · simp -implicitDefEqProofs 
   have hn2: ∀t' (e:At _ _ _=t'),Q' .normal t' _:=fun t' e=>hn t' e trivial
   clear hn
   cases e1:decide (c.op=1)
   · simp -implicitDefEqProofs[e1]
     cases e2:decide (c.op=2)
     · simp -implicitDefEqProofs[e2]
       exact hn2 _ (by simp -implicitDefEqProofs[AC.dsts,Au,At,Aq])
     · simp -implicitDefEqProofs[e2]
       refine Fq (first:=[]) (r:=.tup []) (by simpa[Aa,Ac c] using hcb [.var (Ai c)]) ?_
       simp -implicitDefEqProofs 
       exact hn2 _ (by simp -implicitDefEqProofs[AC.dsts,Au,At,Aq])
   · simp -implicitDefEqProofs[e1]
     refine Fq (first:=[]) (r:=.tup []) (by simpa[Aa,Ac c] using hcb [.var (Ai c)]) ?_
     simp -implicitDefEqProofs 
     exact hn2 _ (by simp -implicitDefEqProofs[AC.dsts,Au,At,Aq])
 simp -implicitDefEqProofs[-A3,AC.dsts,Au,At]
 refine E2 (fun f=>f 1= .int .i64 ub) (fun Q' hn hr=>?_) (fun f hI=>?_)
 · simp -implicitDefEqProofs 
   refine Ah (R4 c) (by simp) (by simp) (by simp[Ag,Aa,Ac,Al,Af,Kd.l]) ?_
   rcases hB with⟨hB,e⟩ | ⟨hB,e⟩
   · simp -implicitDefEqProofs[hB]
     refine hn _ (by simp -implicitDefEqProofs[AC.dsts,Au,At,Aq]) ?_
     simp[Aq,e]
   · simp -implicitDefEqProofs[hB]
     refine hn _ (by simp -implicitDefEqProofs[AC.dsts,Au,At,Aq]) ?_
     simp[Aq,e]
 clear hcb
 simp -implicitDefEqProofs[AC.dsts,Au,At,hI]
 refine B5 (AWp.loopI [] (fun n f h G=>∃k:Nat,k+n=c.l.length∧f 27= .int .i64 k) (c.l.length) (by simp) ⟨0,by simp,rfl⟩ ?_)
 rintro n f h G ⟨k,hk,h27⟩
 refine AWp.run mixed fun Q2 hQ2=>?_
 simp -implicitDefEqProofs[AC.dsts,Au,At,Bo,h27]
 by_cases hlt:k < c.l.length
 · have hdm:=S7 (List.getElem_mem hlt)
   have hr:=hrec c.l[k] (List.getElem_mem _) ub hub.1 (by omega)
   simp -implicitDefEqProofs[hlt]
   refine Br (r:=.tup []) (by simpa[Aa,Ac c] using hr.suffix rfl (by simp[Am,AV.inScope,hcA]) hsA (.var (Ai c) :: (G++[.var (Ai c.l[k])]))) ?_
   simp -implicitDefEqProofs[Ba (n:=(k:Int)+1) (by omega) (by omega)]
   refine hQ2 _ _ _ (Cb (n - 1) h (G':=G++[.var (Ai c.l[k])]) (by simp[Bo,Ac c]) (by omega) (by simp -implicitDefEqProofs[AC.dsts,Au,At,Aq]) ?_)
   exact⟨k+1,by omega,by simp[Aq]⟩
 · simp -implicitDefEqProofs[hlt]
   refine hQ2 _ _ _ (Ce ?_)
   show KE _ 0 _ Q _ _
   simp -implicitDefEqProofs 
   refine hQ _ _ _ ?_
   simp -implicitDefEqProofs[hsA]
theorem Agj (m:Nat) (cap:List AV) (A:List HB) (hsc: ∀n,A.length≤n→As n A=true) (hcap: ∀n,A.length≤n→Am n cap=true)
 (hcb: ∀(c:Cn) (bd:Int),(c.op=1→0≤c.n∧c.n≤20000)→0≤bd→bd≤1000→Ab Tryz.prog m ([Aa c,.int .i64 bd]++cap) A (.tup []) A)
 (c:Cn) (bd:Int) (hform:C4 c=true) (h0:0≤bd) (hd:bd+Cp c≤1000):
 Ab Tryz.prog Ij [Aa c,.int .i64 bd,.fn (.func m) [] cap] A (.tup []) A:=
 Azq m cap A hsc hcap hcb c bd hform h0 hd fun x hx bd h0 hd=>Agj m cap A hsc hcap hcb x bd (Wc hform hx) h0 hd
termination_by SizeOf.sizeOf c
decreasing_by exact Cn.lt_l ‹_›
mutual
theorem Ak5 (L:Cn→Int→Cn): ∀(c:Cn) (bd left:Int),0≤(reb L c bd left).2→(Ap (reb L c bd left).1:Int)=left - (reb L c bd left).2
 | .mk o n s k ns l,bd,left,h=>by
   rw[reb] at h ⊢
   split
   · rename_i hc;rw[if_pos hc] at h;simp at h
   · rename_i hc;rw[if_neg hc] at h
     split
     · simp only;omega
     · rename_i hc2;rw[if_neg hc2] at h
       have:=Ag0 L l _ (left - 1) h
       simp only[Ap]
       omega
theorem Ag0 (L:Cn→Int→Cn): ∀(l:List Cn) (bd left:Int),0≤(Ci L l bd left).2→(Bu (Ci L l bd left).1:Int)=left - (Ci L l bd left).2
 | [],bd,left,h=>by simp[Ci,Bu]
 | c :: cs,bd,left,h=>by
   rw[Ci] at h ⊢
   have h1:=Ag0 L cs bd (reb L c bd left).2 h
   have h2:0≤(reb L c bd left).2:=by
    rcases Int.lt_or_le (reb L c bd left).2 0 with hn | hn
    · have:=Z4 L cs bd _ hn;simp only at h;omega
    · exact hn
   have h3:=Ak5 L c bd left h2
   simp only[Bu]
   omega
theorem Z4 (L:Cn→Int→Cn): ∀(l:List Cn) (bd left:Int),left < 0→(Ci L l bd left).2 < 0
 | [],bd,left,h=>h
 | c :: cs,bd,left,h=>by
   rw[Ci]
   exact Z4 L cs bd _ (by rw[Adh,if_pos (by omega)]; simp)
end
def F8 (L:Cn→Int→Cn) (c:Cn):Cn × Int:=if (reb L c 0 20000).2 < 0∨A6 (reb L c 0 20000).1=false then (Az,6) else ((reb L c 0 20000).1,0)
def cnE (p:Cn × Int):AV:=.tup [Aa p.1,.int .i64 p.2]
theorem Co (p:Cn × Int) (n:Nat):(cnE p).inScope n=true:=by simp[cnE]
theorem Zf (lf:Nat) (cap:List AV) (A:List HB) (L:Cn→Int→Cn) (hL:Lg lf cap A L) (c:Cn):Ab Tryz.prog Ww [Aa c,.fn (.func lf) [] cap] A (cnE (F8 L c)) A:=by
 have hL2:=hL.more [.var (Ai c),.var [.int .i64 0,.int .i64 0,.str [],.sl .nilT [],.sl .nilT [],.sl .nilT []]] (fun b hb=>by
  match b,hb with
  | 0,_=>exact⟨_,rfl⟩
  | 1,_=>exact⟨_,rfl⟩) (fun n _=>by simp[As,Am,A0,AV.inScope])
 have hb:=Yu lf cap _ L hL2 c 0 20000 (by omega) (by omega)
 have hbn:=Ahr L hL.size c 0 20000 (by omega) (by omega)
 have hsz:=Ak5 L c 0 20000
 have hsA:=hL.sc A.length (Nat.le_refl _)
 simp only[List.length_append,List.length_cons,List.length_nil,List.append_assoc,List.cons_append,List.nil_append] at hb
 obtain⟨r,lf2,hr⟩: ∃r lf2,reb L c 0 20000=(r,lf2):=⟨_,_,rfl⟩
 simp only[hr] at hb hbn hsz
 have hrep:F8 L c=if lf2 < 0∨A6 r=false then (Az,6) else (r,0):=by rw[F8,hr]
 refine Ab.go mixed Auh (by simp) fun hfit Q hQ=>?_
 clear hfit
 simp -implicitDefEqProofs[Ao7,Aa]
 refine Br (r:=Aa r) (by simpa[Aa,Cu] using hb) ?_
 simp -implicitDefEqProofs[Aa]
 by_cases h1:lf2 < 0
 · rw[if_pos (.inl h1)] at hrep
   simp -implicitDefEqProofs[h1]
   refine hQ _ _ _ ?_
   simp -implicitDefEqProofs[hrep,cnE,Aa,Cu,hsA]
 · simp -implicitDefEqProofs[h1]
   refine Ah (D5 r (by have:=hsz (by omega); omega)) (by simp) (by simp) (by simp[Ag,Aa,Ac,Al,Af,Kd.l]) ?_
   cases hv:A6 r
   · rw[if_pos (.inr hv)] at hrep
     simp -implicitDefEqProofs 
     refine hQ _ _ _ ?_
     simp -implicitDefEqProofs[hrep,cnE,Aa,Cu,hsA]
   · rw[if_neg (by simp[h1,hv])] at hrep
     simp -implicitDefEqProofs 
     refine hQ _ _ _ ?_
     simp -implicitDefEqProofs[hrep,cnE,Aa,hsA]
theorem Aw1 (c:Cn) (bd d fr:Int) (A:List HB) (i j k:Nat) (hi:A[i]? =some (.var [.int .i64 fr])) (hj:A[j]? =some (.var [.int .i64 d])) (hsc:As A.length A=true)
 (hno:c.op=1→fr≤IntKind.i64.wrap (c.n - bd)→¬IntKind.i64.wrap (IntKind.i64.wrap (c.n - bd)+d) < fr):
 Ab Tryz.prog Om [Aa c,.int .i64 bd,.ptr i 0,.ptr j 0,.ptr k 0] A (.tup []) A:=by
 have hil:=(List.getElem?_eq_some_iff.1 hi).1
 have hjl:=(List.getElem?_eq_some_iff.1 hj).1
 have hi': ∀L:List HB,(A++L)[i]? =some (.var [.int .i64 fr]):=fun L=>by rw[List.getElem?_append_left hil]; exact hi
 have hj': ∀L:List HB,(A++L)[j]? =some (.var [.int .i64 d]):=fun L=>by rw[List.getElem?_append_left hjl]; exact hj
 refine Ab.go mixed Aoj (by simp) fun hfit Q hQ=>?_
 clear hfit
 simp -implicitDefEqProofs[Aa8,Aa,Ac c]
 by_cases h1:c.op=1
 · by_cases h2:fr≤IntKind.i64.wrap (c.n - bd)
   · have h3:=hno h1 h2
     simp -implicitDefEqProofs[h1,hi',hj',h2,h3]
     refine hQ _ _ _ ?_
     simp -implicitDefEqProofs[hsc]
   · simp -implicitDefEqProofs[h1,hi',hj',h2]
     refine hQ _ _ _ ?_
     simp -implicitDefEqProofs[hsc]
 · simp -implicitDefEqProofs[h1]
   refine hQ _ _ _ ?_
   simp -implicitDefEqProofs[hsc]
end Go.Proofs.YtemdkfnenjpioaaGreatDoor
namespace Go.Proofs.YtemdkfnenjpioaaGreatDoor
open Go
attribute [local simp] Ar aev Ax A7 start AV.cells AV.undef Bc Be Bh Bl Bj AV.isCell Bf A1 Bi
attribute [local simp] fin A9 A8 Bb AV.strip Ay A5 AV.inScope Am A0 As
attribute [local simp] Ca Cg
attribute [-simp] Int.not_lt Int.not_le
theorem Ain (d fr:Int) (c:Cn) (bd:Int):Ap (G8 d fr c bd)=1:=by
 unfold G8;split
 · simp[Ef,Ap,Bu]
 · simp[Lo,Ap,Bu]
theorem Abk (d fr:Int) (A:List HB) (i j:Nat) (hi:A[i]? =some (.var [.int .i64 fr])) (hj:A[j]? =some (.var [.int .i64 d])) (hv: ∀b,b < A.length→∃cs,A[b]? =some (.var cs)) (hs: ∀n,A.length≤n→As n A=true):
 Lg Ig [.ptr i 0,.ptr j 0] A (G8 d fr) where
 call c bd:=Ayh c bd d fr A i j hi hj (hs _ (Nat.le_refl _))
 vars:=hv
 sc:=hs
 csc n hn:=by
  have h1:=(List.getElem?_eq_some_iff.1 hi).1
  have h2:=(List.getElem?_eq_some_iff.1 hj).1
  simp[Am,AV.inScope]; omega
 strip:=by simp[Ay,AV.strip]
 size c bd:=by rw[Ain]; omega
def shS (c:Cn) (d fr:Int):Cn × Int:=if A6 c=true then F8 (G8 d fr) c else (Az,1)
theorem Le (c:Cn) (d fr:Int) (hc:Ap c≤1000000000000) (hd0:0≤d) (hd:d≤20000) (hf0:0≤fr) (hf1:fr≤1000000000):
 Ab Tryz.prog Fg [Aa c,.int .i64 d,.int .i64 fr] [] (cnE (shS c d fr)) []:=by
 refine Ab.go mixed Od (by simp) fun hfit Q hQ=>?_
 clear hfit
 simp -implicitDefEqProofs[Ns,Aa]
 refine Ah (D5 c hc) (by simp) (by simp) (by simp[Ag,Aa,Ac,Al,Af,Kd.l]) ?_
 cases hv:A6 c
 · have e:shS c d fr=(Az,1):=by simp[shS,hv]
   simp -implicitDefEqProofs 
   refine hQ _ _ _ ?_
   simp -implicitDefEqProofs[e,cnE,Aa,Cu]
 have key:shS c d fr=F8 (G8 d fr) c:=by simp[shS,hv]
 have hform:C4 c=true:=by simp only[A6,Bool.and_eq_true] at hv;exact hv.2.2
 have hdep:Cp c≤400:=by simp only[A6,Bool.and_eq_true,decide_eq_true_eq] at hv;exact hv.2.1
 have a1: ¬fr < 0:=by omega
 have a2: ¬d < -20000:=by omega
 have a3: ¬20000 < d:=by omega
 have heach:=Agj Om [.ptr 2 0,.ptr 1 0,.ptr 4 0]
  [.var (Ai c),.var [.int .i64 d],.var [.int .i64 fr],.var [.int .i64 0,.int .i64 0,.str [],.sl .nilT [],.sl .nilT [],.sl .nilT []],.var [.bool false]]
  (fun n _=>by simp[As,Am,A0,AV.inScope]) (fun n hn=>by simp only[List.length_cons,List.length_nil] at hn;simp[Am,AV.inScope]; omega)
  (fun c bd hn h0 hb=>Aw1 c bd d fr _ 2 1 4 rfl rfl (by simp[As,Am,A0,AV.inScope]) (fun ho h=>by
   have:=hn ho
   have e1:IntKind.i64.wrap (c.n - bd)=c.n - bd:=Ba (by omega) (by omega)
   have e2:IntKind.i64.wrap (c.n - bd+d)=c.n - bd+d:=Ba (by omega) (by omega)
   rw[e1] at h ⊢
   rw[e2]
   omega)) c 0 hform (by omega) (by omega)
 simp -implicitDefEqProofs[a1,a2,a3]
 refine Br (r:=.tup []) (by simpa[Aa] using heach) ?_
 simp -implicitDefEqProofs 
 refine Iy (fun _=>true) [3,4,8] (by rfl) ?_
 simp -implicitDefEqProofs 
 have hsh:Ab Tryz.prog Ot [.int .i64 d,.int .i64 fr] [.var (Ai c),.var [.int .i64 d],.var [.int .i64 fr],.var [.int .i64 0,.int .i64 0,.str [],.sl .nilT [],.sl .nilT [],.sl .nilT []],.var [.bool false]]
  (.fn (.func Ig) [] [.ptr 6 0,.ptr 5 0])
  [.var (Ai c),.var [.int .i64 d],.var [.int .i64 fr],.var [.int .i64 0,.int .i64 0,.str [],.sl .nilT [],.sl .nilT [],.sl .nilT []],.var [.bool false],.var [.int .i64 d],.var [.int .i64 fr]]:=
  Abu d fr _ (fun n _=>by simp[As,Am,A0,AV.inScope])
 refine Hl (first:=[]) (cap:=[]) hsh (fun b cs _ hb=>Dj (L:=[_,_]) hb) ?_
 simp -implicitDefEqProofs 
 have hrep:=Zf Ig [.ptr 6 0,.ptr 5 0]
  [.var (Ai c),.var [.int .i64 d],.var [.int .i64 fr],.var [.int .i64 0,.int .i64 0,.str [],.sl .nilT [],.sl .nilT [],.sl .nilT []],.var [.bool false],.var [.int .i64 d],.var [.int .i64 fr]] _
  (Abk d fr _ 6 5 rfl rfl (fun b hb=>by
   match b,hb with
   | 0,_=>exact⟨_,rfl⟩
   | 1,_=>exact⟨_,rfl⟩
   | 2,_=>exact⟨_,rfl⟩
   | 3,_=>exact⟨_,rfl⟩
   | 4,_=>exact⟨_,rfl⟩
   | 5,_=>exact⟨_,rfl⟩
   | 6,_=>exact⟨_,rfl⟩) (fun n _=>by simp[As,Am,A0,AV.inScope])) c
 refine Hl (first:=[]) (cap:=[]) (by simpa[Aa] using hrep) (fun b cs _ hb=>Dj (L:=[_,_]) hb) ?_
 simp -implicitDefEqProofs[cnE,Aa]
 refine hQ _ _ _ ?_
 simp -implicitDefEqProofs[key,cnE,Aa]
end Go.Proofs.YtemdkfnenjpioaaGreatDoor
namespace Go.Proofs.YtemdkfnenjpioaaGreatDoor
open Go
attribute [local simp] Ar aev Ax A7 start AV.cells AV.undef Bc Be Bh Bl Bj AV.isCell Bf A1 Bi
attribute [local simp] fin A9 A8 Bb AV.strip Ay A5 AV.inScope Am A0 As
def Sc:Prop:=∀(op:Int) (ks:List Kd) (c:Cn),Ab Tryz.prog Qb [.int .i64 op,.sl .none (ks.map Ao),Aa c] [] (Aa (Cq op ks c)) []
def chS (c:Cn):Cn × Int:=if A6 c=true then (c,0) else (Az,6)
theorem Po (c:Cn) (hc:Ap c≤1000000000000):Ab Tryz.prog Ly [Aa c] [] (cnE (chS c)) []:=by
 refine Ab.go mixed Ay7 (by simp) fun hfit Q hQ=>?_
 clear hfit
 simp -implicitDefEqProofs[Afa,Aa]
 refine Ah (D5 c hc) (by simp) (by simp) (by simp[Ag,Aa,Ac,Al,Af,Kd.l,An,Ak]) ?_
 cases hv:A6 c
 · simp -implicitDefEqProofs
   refine hQ _ _ _ ?_
   simp -implicitDefEqProofs[chS,hv,cnE,Aa,Cu]
 · simp -implicitDefEqProofs
   refine hQ _ _ _ ?_
   simp -implicitDefEqProofs[chS,hv,cnE,Aa]
def apS (c:Cn):Cn × Int:=if (shS c 1 0).2=0 then (Eo 12 (Ef 0) (shS c 1 0).1,0) else (Az,6)
theorem Apy (c:Cn) (hc:Ap c≤1000000000000):Ab Tryz.prog Nr [Aa c] [] (cnE (apS c)) []:=by
 refine Ab.go mixed Ah4 (by simp) fun hfit Q hQ=>?_
 clear hfit
 simp -implicitDefEqProofs[Abs,Aa]
 refine Ah (Le c 1 0 hc (by omega) (by omega) (by omega) (by omega)) (by simp) (Co _ 0) (by simp[Aa]) ?_
 generalize he:shS c 1 0=p
 obtain⟨x,e⟩:=p
 simp -implicitDefEqProofs[cnE,Aa]
 by_cases h:e=0
 · simp -implicitDefEqProofs[h]
   refine hQ _ _ _ ?_
   simp -implicitDefEqProofs[apS,he,h,cnE,Aa,Eo,Ef,Ga,J3,Kd.l_mk]
 · have h2:(e != 0)=true:=by simpa using h
   simp -implicitDefEqProofs[h2]
   refine hQ _ _ _ ?_
   simp -implicitDefEqProofs[apS,he,h,cnE,Aa,Cu]
theorem A0l {L:Cn→Int→Cn} {c:Cn} (h:(F8 L c).2=0):A6 (F8 L c).1=true:=by
 unfold F8 at h ⊢
 split
 · rename_i hc;rw[if_pos hc] at h;simp at h
 · rename_i hc;simp only[not_or,Bool.not_eq_false] at hc;exact hc.2
theorem Aez {c:Cn} {d fr:Int} (h:(shS c d fr).2=0):A6 (shS c d fr).1=true:=by
 unfold shS at h ⊢
 split
 · rename_i hc;rw[if_pos hc] at h;exact A0l h
 · rename_i hc;rw[if_neg hc] at h;simp at h
theorem Ah5 {c:Cn} (h:(chS c).2=0):A6 (chS c).1=true:=by
 unfold chS at h ⊢
 split
 · rename_i hc;exact hc
 · rename_i hc;rw[if_neg hc] at h;simp at h
theorem Aun:A6 Wx=true:=by decide
def Ip (o:Int) (c:Cn) (k:Kd) (ks more:List Kd) (names:List (List UInt8)) (parts:List Cn):Cn × Int:=
 if o=1 then shS c 0 0
 else if o=2 then (if (apS c).2=0 then chS (Hd 9 (To k (.mk [])) (Eo 6 (apS c).1 (apS c).1)) else (Az,(apS c).2))
 else if o=3 then (Wx,0)
 else if o=4 then (if (chS (Cq 10 ks (parts.headD Az))).2=0 then chS (Eo 6 (chS (Cq 10 ks (parts.headD Az))).1 (shS (chS (Cq 10 ks (parts.headD Az))).1 0 0).1) else (Az,(chS (Cq 10 ks (parts.headD Az))).2))
 else if o=5 then chS (.mk 7 0 [] (.mk []) names parts)
 else chS (Cq 9 ks (Eo 6 (parts.headD Az) (Cq 10 more (parts.getD 1 Az))))
mutual
def enc:Sm→Cn × Int
 | .mk o _ _ c k ks more names l=>if (Dm l).2=0 then Ip o c k ks more names (Dm l).1 else (Az,(Dm l).2)
def Dm:List Sm→List Cn × Int
 | []=>([],0)
 | x :: xs=>if (enc x).2=0 then ((enc x).1 :: (Dm xs).1,(Dm xs).2) else ([],(enc x).2)
end
theorem enc_eq (s:Sm):enc s=if (Dm s.l).2=0 then Ip s.op s.con s.k s.ks s.more s.names (Dm s.l).1 else (Az,(Dm s.l).2):=by
 cases s;rw[enc]; rfl
theorem Avf {o:Int} {c:Cn} {k:Kd} {ks more:List Kd} {names:List (List UInt8)} {parts:List Cn} (h:(Ip o c k ks more names parts).2=0):A6 (Ip o c k ks more names parts).1=true:=by
 unfold Ip at h ⊢
 (repeat' split)<;>simp_all[Aez,Ah5,Aun]
theorem Aky {s:Sm} (h:(enc s).2=0):A6 (enc s).1=true:=by
 rw[enc_eq] at h ⊢
 split
 · rename_i hc;rw[if_pos hc] at h;exact Avf h
 · rename_i hc;rw[if_neg hc] at h;exact absurd h hc
theorem Aki: ∀l:List Sm,(Dm l).2=0→∀x ∈ (Dm l).1,A6 x=true
 | [],_,x,hx=>by simp[Dm] at hx
 | y :: ys,h,x,hx=>by
   rw[Dm] at h hx
   split at hx
   · rename_i hc;rw[if_pos hc] at h
     simp only[List.mem_cons] at hx
     rcases hx with rfl | hx
     · exact Aky hc
     · exact Aki ys h x hx
   · rename_i hc;rw[if_neg hc] at h;exact absurd h hc
theorem Um (op:Int) (ks:List Kd) (c:Cn):Ap (Cq op ks c)=ks.length+Ap c:=by
 unfold Cq
 induction ks with
 | nil=>simp
 | cons k ks ih=>simp[Hd,Ap,Bu,ih]; omega
theorem A2k (l:List Cn) (h: ∀x ∈ l,A6 x=true):Bu l≤20000 * l.length:=by
 induction l with
 | nil=>simp[Bu]
 | cons c l ih=>
   have h1:=Fp (h c (by simp))
   have h2:=ih fun x hx=>h x (by simp[hx])
   simp only[Bu,List.length_cons]; omega
def wfM:Sm→Prop
 | .mk o n s c k ks more names l=>C2 (.mk o n s c k ks more names l)=true∧∀x ∈ l,wfM x
theorem wfM_eq (s:Sm):wfM s↔C2 s=true∧∀x ∈ s.l,wfM x:=by
 cases s;rw[wfM]; rfl
end Go.Proofs.YtemdkfnenjpioaaGreatDoor
namespace Go.Proofs.YtemdkfnenjpioaaGreatDoor
open Go
attribute [local simp] Ar aev Ax A7 start AV.cells AV.undef Bc Be Bh Bl Bj AV.isCell Bf A1 Bi
attribute [local simp] fin A9 A8 Bb AV.strip Ay A5 AV.inScope Am A0 As
theorem Rc {e:TypeId} {P:Program} {H:List HB} (A G:List HB) (hH:H=A++G) {tok:Tok} {els:List (List AV)} {k:Nat} {row:List AV} {dst:Option Nat} {l:List AO} {kf:List Fr} {Q:Bg} {t:List AV} (h:owns A.length G tok els k) (hl:els.length+1≤A4) (hk:C0 k els=true) (hr:row.length=k)
 (hn: ∀tok' G',owns A.length G' tok' (els++[row]) k→G.length≤G'.length→AR_ P l kf Q (Ax t dst (.sl tok' (els++[row]))) (A++G')):OPT P (C7 k e tok els [row] H) dst l kf Q t:=by
 subst hH
 exact Aye h hl hk hr hn
theorem Ac0 {c:Cn} (h:A6 c=true):Ap c≤1000000000000:=by have:=Fp h;omega
theorem Yb {s:Sm} (h:C2 s=true):(s.op=1∨s.op=2∨s.op=3∨s.op=4∨s.op=5∨s.op=6)∧(s.op=4→s.l.length=1)∧(s.op=6→s.l.length=2)∧(s.op=5→s.names.length≤1000∧s.names.length=s.l.length):=by
 simp only[C2,m1,Bool.and_eq_true] at h
 have hr:=h.1.1
 unfold Db at hr
 refine⟨?_,fun ho=>?_,fun ho=>?_,fun ho=>?_⟩
 · by_cases h1:s.op=1∨s.op=2∨s.op=3
   · omega
   · rw[if_neg h1] at hr
     by_cases h2:s.op=4
     · omega
     · rw[if_neg h2] at hr
       by_cases h3:s.op=6
       · omega
       · rw[if_neg h3] at hr
         by_cases h4:s.op=5
         · omega
         · rw[if_neg h4] at hr;cases hr
 · rw[if_neg (by omega),if_pos ho] at hr
   rcases hl:s.l with _ | ⟨a,_ | ⟨b,r⟩⟩
   · rw[hl] at hr;cases hr
   · rfl
   · rw[hl] at hr;cases hr
 · rw[if_neg (by omega),if_neg (by omega),if_pos ho] at hr
   rcases hl:s.l with _ | ⟨a,_ | ⟨b,_ | ⟨c,r⟩⟩⟩
   · rw[hl] at hr;cases hr
   · rw[hl] at hr;cases hr
   · rfl
   · rw[hl] at hr;cases hr
 · rw[if_neg (by omega),if_neg (by omega),if_neg (by omega),if_pos ho] at hr
   simp only[Bool.and_eq_true,decide_eq_true_eq] at hr
   refine⟨hr.1,?_⟩
   by_cases hn:s.names.length=s.l.length
   · exact hn
   · rw[Jt _ _ _ hn] at hr;simp at hr
theorem Vy (op:Int) (a b:Cn):Ap (Eo op a b)=1+(Ap a+Ap b):=by simp[Eo,Ap,Bu]
theorem A03 (op:Int) (k:Kd) (a:Cn):Ap (Hd op k a)=1+Ap a:=by simp[Hd,Ap,Bu]
theorem Sd {c:Cn} {d fr:Int} :Ap (shS c d fr).1≤20000:=by
 by_cases h:(shS c d fr).2=0
 · exact Fp (Aez h)
 · have:(shS c d fr).1=Az:=by
    unfold shS F8 at h ⊢
    (repeat' split)<;>simp_all
   rw[this]; decide
theorem apS_size {c:Cn} (h:(apS c).2=0):Ap (apS c).1≤20002:=by
 unfold apS at h ⊢
 split
 · rename_i hs
   have:=Fp (Aez hs)
   rw[Vy]
   have:Ap (Ef 0)=1:=by rfl
   omega
 · rename_i hs;rw[if_neg hs] at h;simp at h
set_option maxHeartbeats 2000000 in
theorem Arl (hu:Sc) (s:Sm) (hc:C1 s) (hw:wfM s) (hrec: ∀x ∈ s.l,Ab Tryz.prog Ps [An x] [] (cnE (enc x)) []):
 Ab Tryz.prog Ps [An s] [] (cnE (enc s)) []:=by
 have hcs:=((Hz s).1 hc).1
 have hn:=((wfM_eq s).1 hw).1
 have key0:=enc_eq s
 refine Ab.go mixed Arj (by simp) fun hfit Q hQ=>?_
 have hf:=Rh (c:=s) (by simpa[Bn,An,AV.fits] using hfit)
 have hln:s.l.length≤1073741824:=hf.2.2.2.2.1
 clear hfit
 simp -implicitDefEqProofs[Ak3,An,Ak s]
 refine B5 (AWp.loopI [] (fun n f h G=>∃(k:Nat) (tok:Tok) (P:List Cn),k+n=s.l.length∧P.length=k∧f 20= .int .i64 k∧f 4= .sl tok (P.map Ai)∧owns 2 G tok (P.map Ai) 6∧(Dm (s.l.drop k)).2=(Dm s.l).2∧P++(Dm (s.l.drop k)).1=(Dm s.l).1) (s.l.length) (by simp) ⟨0,.nilT,[],by simp,rfl,rfl,rfl,E7 _ _ _,rfl,rfl⟩ ?_)
 rintro n f h G ⟨k,tok,P,hk,hP,h20,hf4,hown,he2,he1⟩
 refine AWp.run mixed fun Q2 hQ2=>?_
 simp -implicitDefEqProofs[AC.dsts,Au,At,Bo,h20,hf4]
 by_cases hlt:k < s.l.length
 · have hd':=List.drop_eq_getElem_cons hlt
   have hrec:=hrec s.l[k] (List.getElem_mem _)
   rw[hd',Dm] at he1 he2
   simp -implicitDefEqProofs[hlt,Ak s.l[k]]
   refine Ah hrec (by simp) (Co _ 0) (by simp[An,Ak]) ?_
   generalize enc s.l[k]=p at he1 he2 ⊢
   obtain⟨c,e⟩:=p
   simp only at he1 he2
   by_cases h0:e=0
   · subst h0
     simp only[if_true] at he1 he2
     simp -implicitDefEqProofs[cnE,Aa,Ac c,A1]
     refine Rc [_,_] (G++[_,_]) (by simp only[List.append_assoc,List.cons_append,List.nil_append]; rfl) (by simpa using E5 hown) (by simp[A4]; omega) (Ek _ _ Hs) (by simp) fun tok' G' hown' hG'=>?_
     simp -implicitDefEqProofs[Ba (n:=(k:Int)+1) (by omega) (by omega)]
     refine hQ2 _ _ _ (Cb (n - 1) (h) rfl (by omega) (by simp -implicitDefEqProofs[AC.dsts,Au,At,Aq]) ?_)
     refine⟨k+1,tok',P++[c],by omega,by simp[hP],by simp[Aq],by simp[Aq,Ac c],by simpa[Ac c] using hown',he2,by rw[← he1]; simp⟩
   · rw[if_neg h0] at he1 he2
     simp only at he1 he2
     have h0':(e != 0)=true:=by simpa using h0
     have e1:enc s=(Az,e):=by rw[key0,← he2,if_neg h0]
     simp -implicitDefEqProofs[cnE,Aa,Ac c,h0',h0]
     refine hQ2 _ _ _ (Dg ?_)
     show KR _ _ Q _ _
     simp -implicitDefEqProofs
     refine hQ _ _ _ ?_
     simp -implicitDefEqProofs[e1,cnE,Aa,Cu]
 · have hPe:P=(Dm s.l).1:=by rw[← he1,List.drop_eq_nil_of_le (by omega)]; simp[Dm]
   have hs0:(Dm s.l).2=0:=by rw[← he2,List.drop_eq_nil_of_le (by omega)]; rfl
   rw[if_pos hs0,← hPe] at key0
   have hPv:=Aki s.l hs0
   rw[← hPe] at hPv
   have hPl:P.length=s.l.length:=by omega
   clear he1 he2 hrec hs0 hPe
   simp -implicitDefEqProofs[hlt]
   refine hQ2 _ _ _ (Ce ?_)
   show KE _ 0 _ Q _ _
   by_cases h1:s.op=1
   · simp -implicitDefEqProofs[h1]
     refine Ah (Le s.con 0 0 hcs (by omega) (by omega) (by omega) (by omega)) (by simp) (Co _ 0) (by simp[Aa,Ac]) ?_
     rw[Ip,if_pos h1] at key0
     generalize shS s.con 0 0=p at key0 ⊢
     obtain⟨c,e⟩:=p
     simp -implicitDefEqProofs[cnE,Aa,Ac c]
     refine hQ _ _ _ ?_
     simp -implicitDefEqProofs[key0,cnE,Aa,Ac c]
   by_cases h2:s.op=2
   · simp -implicitDefEqProofs[h2]
     refine Ah (Apy s.con hcs) (by simp) (Co _ 0) (by simp[Aa,Ac]) ?_
     rw[Ip,if_neg h1,if_pos h2] at key0
     have hap:=@apS_size s.con
     have hcall:=Apy s.con hcs
     generalize apS s.con=p at key0 hap hcall ⊢
     obtain⟨c,e⟩:=p
     simp only at key0 hap
     simp -implicitDefEqProofs[cnE,Aa]
     by_cases h0:e=0
     case neg=>
      have h0':(e != 0)=true:=by simpa using h0
      rw[if_neg h0] at key0
      simp -implicitDefEqProofs[h0',h0]
      refine hQ _ _ _ ?_
      simp -implicitDefEqProofs[key0,cnE,Aa,Cu]
     subst h0
     rw[if_pos rfl] at key0
     have hap:=hap rfl
     simp -implicitDefEqProofs
     refine Ah hcall (by simp) (Co _ 0) (by simp[Aa,Ac]) ?_
     simp -implicitDefEqProofs[cnE,Aa]
     refine Iy (fun _=>true) [12] (by rfl) ?_
     simp -implicitDefEqProofs
     refine Bp (A2w s.k) (by simp) (by simp) (by simp[Ag,Al]) ?_
     simp -implicitDefEqProofs[Ag]
     refine Bp (Aa2 c c) (by simp) (by simp) (by simp[Aa]) ?_
     simp -implicitDefEqProofs[Aa,A1]
     have hz:Ap (Hd 9 (To s.k (.mk [])) (Eo 6 c c))≤1000000000000:=by rw[A03,Vy]; omega
     refine Bp (Po _ hz) (by simp) (Co _ 0) (by simp[Aa,Hd,Ga,Al,J3]) ?_
     generalize chS (Hd 9 (To s.k (.mk [])) (Eo 6 c c))=p at key0 ⊢
     obtain⟨c',e'⟩:=p
     simp -implicitDefEqProofs[cnE,Aa]
     refine hQ _ _ _ ?_
     simp -implicitDefEqProofs[key0,cnE,Aa]
   by_cases h3:s.op=3
   · rw[Ip,if_neg h1,if_neg h2,if_pos h3] at key0
     simp -implicitDefEqProofs[h3]
     refine Ah (Aro) (by simp) (by simp) (by simp[Ag,Aa,Ac,Al,Af,Kd.l,An,Ak]) ?_
     simp -implicitDefEqProofs[Aa]
     refine hQ _ _ _ ?_
     simp -implicitDefEqProofs[key0,cnE,Aa]
   by_cases h4:s.op=4
   · rw[Ip,if_neg h1,if_neg h2,if_neg h3,if_pos h4] at key0
     have hl1:=(Yb hn).2.1 h4
     obtain⟨p,rfl⟩: ∃p,P=[p]:=List.length_eq_one_iff.1 (by omega)
     have hpv:=hPv p (by simp)
     have key0:enc s=if (chS (Cq 10 s.ks p)).2=0 then chS (Eo 6 (chS (Cq 10 s.ks p)).1 (shS (chS (Cq 10 s.ks p)).1 0 0).1) else (Az,(chS (Cq 10 s.ks p)).2):=key0
     have hz:Ap (Cq 10 s.ks p)≤1000000000000:=by rw[Um]; have:=Fp hpv;have:=hf.2.1;unfold A4 at this;omega
     have hcall:=Po _ hz
     have hval:=@Ah5 (Cq 10 s.ks p)
     obtain⟨q,hq⟩: ∃q,q=chS (Cq 10 s.ks p):=⟨_,rfl⟩
     rw[← hq] at key0 hval hcall
     clear hq
     simp -implicitDefEqProofs[h4]
     refine Fe (fun _=>true) [] (by rfl) (by rfl) ?_
     simp -implicitDefEqProofs
     refine Bp (hu 10 s.ks p) (by simp) (by simp) (by simp[Aa]) ?_
     simp -implicitDefEqProofs[Aa]
     refine Bp hcall (by simp) (Co _ 0) (by simp[Aa]) ?_
     clear hcall
     obtain⟨c,e⟩:=q
     simp only at key0 hval
     simp -implicitDefEqProofs[cnE,Aa]
     refine⟨fun b cs _ hb=>by simpa using Dj (L:=[_]) hb,?_⟩
     by_cases h0:e=0
     case neg=>
      have h0':(e != 0)=true:=by simpa using h0
      rw[if_neg h0] at key0
      simp -implicitDefEqProofs[h0',h0]
      refine hQ _ _ _ ?_
      simp -implicitDefEqProofs[key0,cnE,Aa,Cu]
     subst h0
     rw[if_pos rfl] at key0
     have hval:=hval rfl
     simp -implicitDefEqProofs
     refine Ah (Le c 0 0 (Ac0 hval) (by omega) (by omega) (by omega) (by omega)) (by simp) (Co _ 0) (by simp[Aa]) ?_
     have hsz:=@Sd c 0 0
     generalize shS c 0 0=q at key0 hsz ⊢
     obtain⟨c',e'⟩:=q
     simp -implicitDefEqProofs[cnE,Aa]
     refine Ah (Aa2 c c') (by simp) (by simp) (by simp[Aa]) ?_
     simp -implicitDefEqProofs[Aa]
     have hz:Ap (Eo 6 c c')≤1000000000000:=by rw[Vy]; have:=Fp hval;have:=hsz;simp only at this;omega
     refine Ah (Po _ hz) (by simp) (Co _ 0) (by simp[Aa]) ?_
     generalize chS (Eo 6 c c')=q at key0 ⊢
     obtain⟨c2,e2⟩:=q
     simp -implicitDefEqProofs[cnE,Aa]
     refine hQ _ _ _ ?_
     simp -implicitDefEqProofs[key0,cnE,Aa]
   by_cases h5:s.op=5
   · rw[Ip,if_neg h1,if_neg h2,if_neg h3,if_neg h4,if_pos h5] at key0
     have hl5:=(Yb hn).2.2.2 h5
     simp -implicitDefEqProofs[h5]
     refine Ah (Nf s.names) (by simp) (by simp) (by simp[Ag,Aa,Ac,Al,Af,Kd.l,An,Ak]) ?_
     simp -implicitDefEqProofs
     have hz:Ap (.mk 7 0 [] (.mk []) s.names P)≤1000000000000:=by simp only[Ap]; have:=A2k P hPv;omega
     refine Ah (Po _ hz) (by simp) (Co _ 0) (by simp[Aa,Ga,Kd.l_mk]) ?_
     generalize chS (.mk 7 0 [] (.mk []) s.names P)=q at key0 ⊢
     obtain⟨c2,e2⟩:=q
     simp -implicitDefEqProofs[cnE,Aa]
     refine hQ _ _ _ ?_
     simp -implicitDefEqProofs[key0,cnE,Aa]
   · have h6:s.op=6:=by have:=(Yb hn).1;omega
     rw[Ip,if_neg h1,if_neg h2,if_neg h3,if_neg h4,if_neg h5] at key0
     have hl6:=(Yb hn).2.2.1 h6
     obtain⟨p,q,rfl⟩: ∃p q,P=[p,q]:=get2 (by omega)
     have hpv:=hPv p (by simp)
     have hqv:=hPv q (by simp)
     simp only[List.headD_cons,List.getD_cons_succ,List.getD_cons_zero] at key0
     have hz:Ap (Cq 9 s.ks (Eo 6 p (Cq 10 s.more q)))≤1000000000000:=by
      rw[Um,Vy,Um]; have:=Fp hpv;have:=Fp hqv;have:=hf.2.1;have:=hf.2.2.1;unfold A4 at *; omega
     simp -implicitDefEqProofs[h6]
     refine Iy (fun _=>true) [17] (by rfl) ?_
     simp -implicitDefEqProofs
     refine Bp (hu 10 s.more q) (by simp) (by simp) (by simp[Aa]) ?_
     simp -implicitDefEqProofs[Aa]
     refine Bp (Aa2 p (Cq 10 s.more q)) (by simp) (by simp) (by simp[Aa]) ?_
     simp -implicitDefEqProofs[Aa]
     refine Bp (hu 9 s.ks (Eo 6 p (Cq 10 s.more q))) (by simp) (by simp) (by simp[Aa]) ?_
     simp -implicitDefEqProofs[Aa]
     refine Bp (Po _ hz) (by simp) (Co _ 0) (by simp[Aa]) ?_
     generalize chS (Cq 9 s.ks (Eo 6 p (Cq 10 s.more q)))=q at key0 ⊢
     obtain⟨c2,e2⟩:=q
     simp -implicitDefEqProofs[cnE,Aa]
     refine hQ _ _ _ ?_
     simp -implicitDefEqProofs[key0,cnE,Aa]
theorem Ajn (hu:Sc) (s:Sm) (hc:C1 s) (hw:wfM s):Ab Tryz.prog Ps [An s] [] (cnE (enc s)) []:=
 Arl hu s hc hw fun x hx=>Ajn hu x (((Hz s).1 hc).2 x hx) (((wfM_eq s).1 hw).2 x hx)
termination_by SizeOf.sizeOf s
decreasing_by exact Sm.lt_l ‹_›
mutual
theorem mS_wf: ∀(s:Sm) (left d:Int),(mS s left d).2=true→wfM s
 | .mk o n s c k ks more names l,left,d,h=>by
   rw[mS] at h
   split at h
   · cases h
   · rename_i hc
     rw[wfM]
     refine⟨?_,mSs_wf l _ _ _ h⟩
     cases hn:C2 (.mk o n s c k ks more names l)
     · exact absurd (.inr (.inr hn)) hc
     · rfl
theorem mSs_wf: ∀(l:List Sm) (left d n:Int),(mSs l left d n).2=true→∀x ∈ l,wfM x
 | [],_,_,_,_,x,hx=>by cases hx
 | y :: ys,left,d,n,h,x,hx=>by
   rw[mSs] at h
   split at h
   · rename_i hc
     rcases List.mem_cons.1 hx with e | hx
     · rw[e]; exact mS_wf y _ _ hc
     · exact mSs_wf ys _ _ _ h x hx
   · cases h
end
theorem Ahq {s:Sm} (h:Ct s=true):wfM s:=mS_wf s _ _ h
theorem Lk (s:Sm):(Di s=0)↔Ct s=false:=by
 unfold Di
 cases h:Ct s
 · simp
 · have:=(Yd s 20000 1 h).1
   simp;omega
def Aw (ks:List Kd) (s:Sm):AV:=.agg (.sl .none (ks.map Ao) :: B6 s)
def Jj (ks:List Kd) (s:Sm):Cn × Int:=if (enc s).2=0 then chS (Cq 10 ks (enc s).1) else (Az,(enc s).2)
def abOk (ks:List Kd) (s:Sm):Bool:=Ct s && Ej ks
def Fy (ks:List Kd) (s:Sm):Cn × Int:=if abOk ks s=true then Jj ks s else (Az,1)
end Go.Proofs.YtemdkfnenjpioaaGreatDoor
