/- Joined: N4 N5 S1. -/
import Derived.Test.YtemdkfnenjpioaaGreatDoorG22
set_option linter.unusedSimpArgs false
set_option linter.unusedVariables false
set_option linter.unusedSectionVars false
set_option linter.all false
set_option maxHeartbeats 4000000
set_option maxRecDepth 10000
namespace Go.Proofs.YtemdkfnenjpioaaGreatDoor
open Go
attribute [local simp] Ar aev Ax A7 start AV.cells AV.undef Bc Be Bh Bl Bj AV.isCell Bf A1 Bi
attribute [local simp] fin A9 A8 Bb AV.strip Ay A5 AV.inScope Am A0 As
mutual
def arA:Cn→Bool
 | .mk o _ _ _ _ l=>(decide (o≠12) || decide (l.length=2)) && ((decide (o≠11) || decide (l.length=1)) && arAs l)
def arAs:List Cn→Bool
 | []=>true
 | c :: cs=>arA c && arAs cs
end
theorem arAs_all (l:List Cn):arAs l=l.all arA:=by
 induction l with
 | nil=>rfl
 | cons c l ih=>simp[arAs,ih]
theorem Qd (c:Cn):arA c=true↔arC c∧∀x ∈ c.l,arA x=true:=by
 cases c with
 | mk o n s k ns l=>
   simp only[arA,arAs_all,Bool.and_eq_true,Bool.or_eq_true,decide_eq_true_eq,List.all_eq_true,arC,Cn.op,Cn.l]
   constructor
   · rintro⟨h1,h2,h3⟩
     exact⟨⟨fun h=>h1.resolve_left (by simp[h]),fun h=>h2.resolve_left (by simp[h])⟩,h3⟩
   · rintro⟨⟨h1,h2⟩,h3⟩
     refine⟨?_,?_,h3⟩
     · by_cases h:o=12
       · exact .inr (h1 h)
       · exact .inl h
     · by_cases h:o=11
       · exact .inr (h2 h)
       · exact .inl h
theorem Akd: ∀c:Cn,C4 c=true→arA c=true
 | c,h=>by
   rw[Qd]
   have h':=h
   rw[W6] at h'
   simp only[Jo,n1,Bool.and_eq_true,decide_eq_true_eq] at h'
   refine⟨⟨fun ho=>?_,fun ho=>?_⟩,fun x hx=>Akd x (Wc h hx)⟩
   · have:=h'.1.1
     simp[Sy,ho,opL,opB] at this
     omega
   · have:=h'.1.1
     simp[Sy,ho,opL,opB] at this
     omega
termination_by c=>SizeOf.sizeOf c
decreasing_by exact Cn.lt_l ‹_›
theorem Y0 {c:Cn} (h:A6 c=true):arA c=true∧Ap c≤20000:=by
 simp only[A6,Bool.and_eq_true,decide_eq_true_eq] at h
 exact⟨Akd c h.2.2,h.1⟩
def Qq (c:Cn) (x:Int × Bool) (z:Cn × (Int × Bool)):Prop:=∀(S:Int × Bool→List HB) (p m:Nat),Cnt S p m→Ab Tryz.prog Ng [.ptr p 0,Aa c] (S x) (Aa z.1) (S z.2)
inductive NzL:List Cn→Int × Bool→List Cn→Int × Bool→Prop
 | nil (x):NzL [] x [] x
 | cons {c l x z r y} (h:Qq c x z) (hl:NzL l z.2 r y):NzL (c :: l) x (z.1 :: r) y
theorem NzL.length {l:List Cn} {x:Int × Bool} {r:List Cn} {y:Int × Bool} (h:NzL l x r y):r.length=l.length:=by
 induction h with
 | nil=>rfl
 | cons _ _ ih=>simp[ih]
inductive NzT (out:Cn):Int × Bool→Cn × (Int × Bool)→Prop
 | over (s:Int) (o:Bool) (h:kpM out o=(Az,true)):NzT out (s,o) (Az,(s,true))
 | beta (s:Int) (f a b:Cn) (z:Cn × (Int × Bool)) (h:kpM out false=(out,false)) (ho:out.op=12) (hl:out.l=[f,a]) (hf:f.op=11) (hb:f.l=[b]) (hz:Qq (btM b a s).1 (btM b a s).2 z) (h1:Ap b≤1000000000000) (h2:Ap a≤1000000000000):NzT out (s,false) z
 | shift (s:Int) (x f:Cn) (l:List Cn) (p:Cn × Int) (h:kpM out false=(out,false)) (ho:out.op=11) (he:Ab Tryz.prog Nu [Aa out] [] (.bool true) []) (hl:out.l=[x]) (hx:x.l=f :: l) (hp:Ab Tryz.prog Fg [Aa f,.int .i64 (-1),.int .i64 0] [] (cnE p) []):
  NzT out (s,false) (if p.2=0 then (p.1,(s,false)) else (Az,(s,true)))
 | plain (s:Int) (h:kpM out false=(out,false)) (ho:out.op=12→∃f a,out.l=[f,a]∧f.op≠11) (he:Ab Tryz.prog Nu [Aa out] [] (.bool false) []):NzT out (s,false) (out,(s,false))
theorem Anm (c:Cn) (s:Int):Qq c (s,true) (Az,(s,true)):=by
 intro S p m hC
 have a1:=hC.h.len
 have a2:=hC.h.at0
 have a4:=hC.getA
 have hsc:=fun s=>hC.h.sc s m (Nat.le_refl _)
 refine Ab.go mixed Abg (by simp[a1]) fun hfit Q hQ=>?_
 clear hfit
 simp -implicitDefEqProofs[Up,Aa,a1,a2,a4,hC.h.get,hC.h.set]
 refine hQ _ _ _ ?_
 simp -implicitDefEqProofs[Aa,Cu,a1,hsc,hC.h.get]
set_option maxHeartbeats 1000000 in
theorem Au4 (c:Cn) (s:Int) (r:List Cn) (y:Int × Bool) (z:Cn × (Int × Bool)) (hch:NzL c.l (s,false) r y) (hsz:Ap (.mk c.op c.n c.s c.k c.names r)≤1000000000000) (hT:NzT (.mk c.op c.n c.s c.k c.names r) y z):Qq c (s,false) z:=by
 intro S p m hC
 have a1:=hC.h.len
 have a2:=hC.h.at0
 have a3:=hC.h.set
 have a3':=hC.h.get
 have a4:=hC.getA
 have a5:=hC.setA
 have hlt0:=hC.lt
 have hsc:=fun s=>hC.h.sc s m (Nat.le_refl _)
 have b2: ∀j,(m+j != p)=true:=fun j=>by simp;omega
 have b3:(m != p)=true:=by simp;omega
 have b4: ∀j,(p == m+j)=false:=fun j=>by simp;omega
 have hrl:=hch.length
 refine Ab.go mixed Abg (by simp[a1]) fun hfit Q hQ=>?_
 have hf:=H8 (c:=c) (by simpa[Bn,Aa,AV.fits] using hfit.2.1)
 have hln:c.l.length≤1073741824:=hf.2.2.2.2.2.2.2.1
 clear hfit hf
 simp -implicitDefEqProofs[Up,Aa,Ac c,a1,a2,a3,a3',a4,a5]
 refine B5 (AWp.loopS (fun q:(Int × Bool) × List AV=>S q.1++[.var [.int .i64 c.op,.int .i64 c.n,.str c.s,.sl .none (c.k.l.map Ao),.sl .none (Af c.names),.sl .none (c.l.map Ai)],.var [.int .i64 0,.int .i64 0,.str [],.sl .nilT [],.sl .nilT [],.sl .nilT []],.var q.2])
  (fun n f q G=>∃(k:Nat) (tok:Tok) (done rest:List Cn),k+n=c.l.length∧f 20= .int .i64 k∧NzL (c.l.drop k) q.1 rest y∧done++rest=r∧done.length=k∧
   q.2=[.int .i64 c.op,.int .i64 c.n,.str c.s,.sl .none (c.k.l.map Ao),.sl .none (Af c.names),.sl tok (done.map Ai)]∧owns (m+3) G tok (done.map Ai) 6)
  c.l.length ((s,false),[.int .i64 c.op,.int .i64 c.n,.str c.s,.sl .none (c.k.l.map Ao),.sl .none (Af c.names),.sl .nilT []]) [] (by simp)
  ⟨0,.nilT,[],r,by simp,rfl,by simpa using hch,by simp,rfl,rfl,E7 _ _ _⟩ ?_)
 rintro n f ⟨st,cs⟩ G ⟨k,tok,done,rest,hk,h20,hN,hr,hdl,hcs,hown⟩
 simp only at hN hcs
 subst hcs
 refine AWp.run mixed fun Q2 hQ2=>?_
 simp -implicitDefEqProofs[AC.dsts,Au,At,Bo,h20]
 by_cases hlt:k < c.l.length
 · have hd:=List.drop_eq_getElem_cons hlt
   rw[hd] at hN
   cases hN with
   | @cons _ _ _ z1 r1 _ hz hl=>
   have hcall:=fun L=>(hz S p m hC).suffix (by simp[a1]) (by simp[Am,AV.inScope,a1,Aa,hlt0]) (by rw[a1]; exact hsc _) L
   have hkeep:=hC.keep st z1.2
   have hlen: ∀(a b d:HB) (L:List HB),(S st++a :: b :: d :: L).length=m+(L.length+3):=fun a b d L=>by simp[a1]
   have hx1: ∀(a b d e:HB) (L:List HB),(S st++a :: b :: d :: (L++[e]))[m+(L.length+3)]? =some e:=fun a b d e L=>by rw[a3']; simp
   simp -implicitDefEqProofs[hlt,a1,a2,a3,a3',a4,a5,hlen,hx1]
   refine Iy (fun b=>b != p) [4] (by rfl) ?_
   simp -implicitDefEqProofs[a1,a2,a3,a3',a4,a5,hlen,hx1,b2,b3]
   refine Hl (first:=[]) (cap:=[]) (r:=Aa z1.1) (H':=S z1.2++(.var [.int .i64 c.op,.int .i64 c.n,.str c.s,.sl .none (c.k.l.map Ao),.sl .none (Af c.names),.sl .none (c.l.map Ai)] :: .var [.int .i64 0,.int .i64 0,.str [],.sl .nilT [],.sl .nilT [],.sl .nilT []] :: .var [.int .i64 c.op,.int .i64 c.n,.str c.s,.sl .none (c.k.l.map Ao),.sl .none (Af c.names),.sl tok (done.map Ai)] :: (G++[.var (Ai c.l[k])]))) (by simpa[Aa] using hcall (.var [.int .i64 c.op,.int .i64 c.n,.str c.s,.sl .none (c.k.l.map Ao),.sl .none (Af c.names),.sl .none (c.l.map Ai)] :: .var [.int .i64 0,.int .i64 0,.str [],.sl .nilT [],.sl .nilT [],.sl .nilT []] :: .var [.int .i64 c.op,.int .i64 c.n,.str c.s,.sl .none (c.k.l.map Ao),.sl .none (Af c.names),.sl tok (done.map Ai)] :: (G++[.var (Ai c.l[k])]))) (hkeep (.var [.int .i64 c.op,.int .i64 c.n,.str c.s,.sl .none (c.k.l.map Ao),.sl .none (Af c.names),.sl .none (c.l.map Ai)] :: .var [.int .i64 0,.int .i64 0,.str [],.sl .nilT [],.sl .nilT [],.sl .nilT []] :: .var [.int .i64 c.op,.int .i64 c.n,.str c.s,.sl .none (c.k.l.map Ao),.sl .none (Af c.names),.sl tok (done.map Ai)] :: (G++[.var (Ai c.l[k])]))) ?_
   simp -implicitDefEqProofs[Aa,A1,a1,a2,a3,a3',a4,a5]
   refine Acr (S z1.2++[_,_,_]) (G++[_]) (by simp only[List.append_assoc,List.cons_append,List.nil_append]; rfl) (by simpa[a1] using E5 hown) (by simp[A4]; omega) (Ek _ _ Hs) (by simp) fun tok' G' hown' hG'=>?_
   simp -implicitDefEqProofs[Ba (n:=(k:Int)+1) (by omega) (by omega),a1,a2,a3,a3',a4,a5]
   refine hQ2 _ _ _ (Ia (n - 1) (z1.2,[.int .i64 c.op,.int .i64 c.n,.str c.s,.sl .none (c.k.l.map Ao),.sl .none (Af c.names),.sl tok' ((done++[z1.1]).map Ai)]) (G':=G') (by simp) (by omega) (by simp -implicitDefEqProofs[AC.dsts,Au,At,Aq]) ?_)
   exact⟨k+1,tok',done++[z1.1],r1,by omega,by simp[Aq],hl,by simpa using hr,by simp[hdl],rfl,by simpa[a1] using hown'⟩
 · have hd:c.l.drop k=[]:=List.drop_eq_nil_of_le (by omega)
   rw[hd] at hN
   cases hN
   obtain rfl:done=r:=by simpa using hr
   simp -implicitDefEqProofs[hlt]
   refine hQ2 _ _ _ (Jm ?_)
   show KE _ 0 _ Q _ _
   obtain⟨s1,o1⟩:=y
   obtain⟨out,hout⟩: ∃out:Cn,out= .mk c.op c.n c.s c.k c.names done:=⟨_,rfl⟩
   rw[← hout] at hsz hT
   have hkp:=fun L=>(Anz out hsz hC s1 o1).suffix (by simp[a1]) (by simp[Am,AV.inScope,a1,Aa,hlt0]) (by rw[a1]; exact hsc _) L
   have hoc:Ai out=[.int .i64 c.op,.int .i64 c.n,.str c.s,.sl .none (c.k.l.map Ao),.sl .none (Af c.names),.sl .none (done.map Ai)]:=by rw[hout,Ga]
   have hop:out.op=c.op:=by rw[hout]; rfl
   have hol:out.l=done:=by rw[hout]; rfl
   clear hout hr hrl hown hdl
   simp -implicitDefEqProofs[a1,a2,a3,a3',a4,a5]
   refine Br ((hkp _).args (by simp[Ay,AV.strip,Aa,hoc])) ?_
   cases hT with
   | over s o h=>
     simp -implicitDefEqProofs[h,Aa,Cu,a1,a2,a3,a3',a4,a5]
     refine hQ _ _ _ ?_
     simp -implicitDefEqProofs[Aa,Cu,a1,hsc,a3']
   | beta s f a b _ h ho hl hf hb hz h1 h2=>
     rw[hop] at ho
     rw[hol] at hl
     subst hl
     have hbt:=fun L=>(Auc f a b [] hb h1 h2 hC s1).suffix (by simp[a1]) (by simp[Am,AV.inScope,a1,Aa,hlt0]) (by rw[a1]; exact hsc _) L
     generalize btM b a s1=q at hbt hz
     have hnz:=fun L=>(hz S p m hC).suffix (by simp[a1]) (by simp[Am,AV.inScope,a1,Aa,hlt0]) (by rw[a1]; exact hsc _) L
     simp -implicitDefEqProofs[h,Aa,hoc,ho,a1,a2,a3,a3',a4,a5,hf,Ac f]
     refine Iy (fun b=>b != p) [10,11] (by rfl) ?_
     simp -implicitDefEqProofs[a1,a2,a3,a3',a4,a5,b2,b3]
     refine Hl (first:=[]) (cap:=[]) (r:=Aa q.1) (by simpa[Aa,Ac f,hf] using hbt _) (hC.keep (s1,false) q.2 _) ?_
     simp -implicitDefEqProofs[Aa,a1,a2,a3,a3',a4,a5]
     refine Hl (first:=[]) (cap:=[]) (r:=Aa z.1) (by simpa[Aa] using hnz _) (hC.keep (s1,false) z.2 _) ?_
     simp -implicitDefEqProofs[Aa,a1,a2,a3,a3',a4,a5]
     refine hQ _ _ _ ?_
     simp -implicitDefEqProofs[Aa,a1,hsc]
   | shift s x f l p h ho he hl hx hp=>
     rw[hop] at ho
     rw[hol] at hl
     subst hl
     obtain⟨u,e⟩:=p
     simp -implicitDefEqProofs[h,Aa,hoc,ho,a1,a2,a3,a3',a4,a5]
     refine Ah he (by simp) (by simp) (by simp[Aa,hoc,ho]) ?_
     simp -implicitDefEqProofs[a1,a2,a3,a3',a4,a5,Ac x,hx]
     refine Ah hp (by simp) (by simp[cnE]) (by simp[Aa]) ?_
     simp -implicitDefEqProofs[cnE,Aa,a1,a2,a3,a3',a4,a5]
     by_cases h0:e=0
     · simp -implicitDefEqProofs[h0,a1,a2,a3,a3',a4,a5]
       refine hQ _ _ _ ?_
       simp -implicitDefEqProofs[Aa,a1,hsc,h0]
     · have h0':(e != 0)=true:=by simpa using h0
       simp -implicitDefEqProofs[h0',a1,a2,a3,a3',a4,a5]
       refine hQ _ _ _ ?_
       simp -implicitDefEqProofs[Aa,Cu,a1,hsc,h0,a3']
   | plain s h ho he=>
     rw[hop] at ho
     simp -implicitDefEqProofs[h,Aa,hoc,a1,a2,a3,a3',a4,a5]
     by_cases h12:c.op=12
     · obtain⟨f,a,hl,hf⟩:=ho h12
       rw[hol] at hl
       subst hl
       have hf':(f.op == 11)=false:=by simpa using hf
       simp -implicitDefEqProofs[h12,hf',a1,a2,a3,a3',a4,a5,Ac f,hf]
       refine Ah he (by simp) (by simp) (by simp[Aa,hoc,h12,Ac f]) ?_
       simp -implicitDefEqProofs[a1,a2,a3,a3',a4,a5]
       refine hQ _ _ _ ?_
       simp -implicitDefEqProofs[Aa,hoc,a1,hsc,h12,Ac f]
     · have h12':(c.op == 12)=false:=by simpa using h12
       simp -implicitDefEqProofs[h12',a1,a2,a3,a3',a4,a5]
       refine Ah he (by simp) (by simp) (by simp[Aa,hoc]) ?_
       simp -implicitDefEqProofs[a1,a2,a3,a3',a4,a5]
       refine hQ _ _ _ ?_
       simp -implicitDefEqProofs[Aa,hoc,a1,hsc]
end Go.Proofs.YtemdkfnenjpioaaGreatDoor
namespace Go.Proofs.YtemdkfnenjpioaaGreatDoor
open Go
attribute [local simp] Ar aev Ax A7 start AV.cells AV.undef Bc Be Bh Bl Bj AV.isCell Bf A1 Bi
attribute [local simp] fin A9 A8 Bb AV.strip Ay A5 AV.inScope Am A0 As
theorem A2c (H:List HB) (i:Nat) (x:HB):Cd (fun b=>b != i) H (H.set i x):=by
 intro b cs hV hb
 have:b≠i:=by simpa using hV
 rw[List.getElem?_set_ne (Ne.symm this)]
 exact hb
def Hh (x:Int × Bool) (z:Cn × (Int × Bool)):Prop:=x.1≤z.2.1∧z.2.1≤10001∧(z.2.2=false→x.2=false∧z.2.1≤10000∧arA z.1=true)∧Ap z.1≤20000
def NzP (N:Nat) (c:Cn):Prop:=arA c=true→Ap c≤20000→∀s o,0≤s→s≤10001→(o=false→s≤10000)→10001 - s≤(N:Int)→∃z,Qq c (s,o) z∧Hh (s,o) z
theorem Qf:Ap Az≤20000:=by simp[Az,Ap,Bu]
theorem Akg (N:Nat): ∀(l:List Cn) (s:Int) (o:Bool),(∀ c ∈ l,NzP N c∧arA c=true∧Ap c≤20000)→0≤s→s≤10001→(o=false→s≤10000)→10001 - s≤(N:Int)→
 ∃r y,NzL l (s,o) r y∧s≤y.1∧y.1≤10001∧(y.2=false→o=false∧y.1≤10000∧∀x ∈ r,arA x=true)∧∀x ∈ r,Ap x≤20000
 | [],s,o,_,h0,h1,h2,_=>⟨[],(s,o),.nil _,Int.le_refl _,h1,fun h=>⟨h,h2 h,by simp⟩,by simp⟩
 | c :: l,s,o,hl,h0,h1,h2,h3=>by
   obtain⟨hp,ha,hs⟩:=hl c (by simp)
   obtain⟨⟨z,s1,o1⟩,hz,g1,g2,g3,g4⟩:=hp ha hs s o h0 h1 h2 h3
   simp only at g1 g2 g3 g4
   obtain⟨r,y,q1,q2,q3,q4,q5⟩:=Akg N l s1 o1 (fun x hx=>hl x (by simp[hx])) (by omega) g2 (fun h=>(g3 h).2.1) (by omega)
   refine⟨z :: r,y,.cons (z:=(z,(s1,o1))) hz q1,by omega,q3,fun h=>?_,fun x hx=>?_⟩
   · obtain⟨e1,e2,e3⟩:=q4 h
     obtain⟨f1,_,f3⟩:=g3 e1
     refine⟨f1,e2,fun x hx=>?_⟩
     rcases List.mem_cons.1 hx with rfl | hx
     · exact f3
     · exact e3 x hx
   · rcases List.mem_cons.1 hx with rfl | hx
     · exact g4
     · exact q5 x hx
theorem Amq (n:Nat): ∀l:List Cn,(∀ x ∈ l,Ap x≤n)→Bu l≤n * l.length
 | [],_=>by simp[Bu]
 | c :: l,h=>by
   have h1:=h c (by simp)
   have h2:=Amq n l fun x hx=>h x (by simp[hx])
   simp only[Bu,List.length_cons,Nat.mul_add]
   omega
theorem Agf: ∀l:List Cn,l.length≤Bu l
 | []=>by simp
 | c :: l=>by
   have:=Agf l
   have:=Gp c
   simp only[Bu,List.length_cons]; omega
theorem Amg (out:Cn) (o:Bool):kpM out o=(Az,true)∨(o=false∧kpM out false=(out,false)∧Ap out≤20000):=by
 unfold kpM
 by_cases h:o=true∨20000 < Ap out∨400 < Cp out
 · left;rw[if_pos h]
 · right
   simp only[not_or] at h
   refine⟨by simpa using h.1,?_,by omega⟩
   rw[if_neg (by simp only[not_or]; exact⟨by simp,h.2.1,h.2.2⟩)]
theorem btM_good (b a:Cn) (s:Int) (h0:0≤s) (h1:s≤10000):(btM b a s).2.1=s+1∧((btM b a s).2.2=false→s+1≤10000∧arA (btM b a s).1=true∧Ap (btM b a s).1≤20000):=by
 have e:IntKind.i64.wrap (s+1)=s+1:=Ba (by omega) (by omega)
 unfold btM
 rw[e]
 split
 · exact⟨rfl,by simp⟩
 · rename_i h2
   split
   · exact⟨rfl,by simp⟩
   · rename_i h3
     refine⟨rfl,fun h=>?_⟩
     simp only at h ⊢
     rcases Amg (suM b [a]).1 false with hk | ⟨_,hk,hs⟩
     · rw[hk] at h;cases h
     · rw[hk]
       have hv:=(On b [a]).2 (by simpa using h3)
       exact⟨by omega,Y0 hv⟩
theorem nz_rec (N:Nat) (hN: ∀M,M < N→∀c,NzP M c) (c:Cn):NzP N c:=by
 intro ha hs s o h0 h1 h2 h3
 cases o
 case true=>exact⟨_,Anm c s,⟨Int.le_refl _,h1,by simp,Qf⟩⟩
 have h2:=h2 rfl
 have hpos:0 < N:=by omega
 obtain⟨hac,hal⟩:=(Qd c).1 ha
 have hse:=Gp c
 obtain⟨r,⟨s1,o1⟩,q1,q2,q3,q4,q5⟩:=Akg N c.l s false (fun x hx=>⟨nz_rec N hN x,hal x hx,by have:=Px hx;omega⟩) h0 h1 (fun _=>h2) h3
 simp only at q2 q3 q4
 have hlen:=q1.length
 have hl1:=Agf c.l
 have hl2:=Amq 20000 r q5
 have hsz:Ap (.mk c.op c.n c.s c.k c.names r)≤1000000000000:=by
  rw[Ap]
  have:20000 * r.length≤20000 * 20000:=Nat.mul_le_mul_left _ (by omega)
  omega
 have walk:=fun z hT=>Au4 c s r (s1,o1) z q1 hsz hT
 rcases Amg (.mk c.op c.n c.s c.k c.names r) o1 with hk | ⟨rfl,hk,hks⟩
 · exact⟨_,walk _ (.over s1 o1 hk),⟨q2,q3,by simp,Qf⟩⟩
 obtain⟨_,q4b,q4c⟩:=q4 rfl
 have hout:arA (.mk c.op c.n c.s c.k c.names r)=true:=by
  rw[Qd]
  exact⟨⟨fun h=>by show r.length=2;rw[hlen]; exact hac.1 h,fun h=>by show r.length=1;rw[hlen]; exact hac.2 h⟩,q4c⟩
 have hoc:=(Qd _).1 hout
 obtain⟨b,he,hb⟩:=Ayb (.mk c.op c.n c.s c.k c.names r) hoc.1 fun x hx=>((Qd x).1 (hoc.2 x hx)).1
 by_cases h12:c.op=12
 · obtain⟨f,a,hfa⟩: ∃f a,r=[f,a]:=by
    have:=hac.1 h12
    rw[← hlen] at this
    match r,this with
    | [f,a],_=>exact⟨f,a,rfl⟩
   subst hfa
   by_cases hf:f.op=11
   · obtain⟨b0,hb0⟩: ∃b0,f.l=[b0]:=by
      have:=((Qd f).1 (q4c f (by simp))).1.2 hf
      match h:f.l,this with
      | [x],_=>exact⟨x,rfl⟩
     have hfs:=q5 f (by simp)
     have hfe:=Gp f
     have hbs:Ap b0≤1000000000000:=by
      have:=Px (l:=f.l) (x:=b0) (by simp[hb0])
      omega
     obtain⟨t1,t2⟩:=btM_good b0 a s1 (by omega) q4b
     generalize hq:btM b0 a s1=q at t1 t2
     obtain⟨u,s2,o2⟩:=q
     simp only at t1 t2
     subst t1
     have key: ∃z,Qq u (s1+1,o2) z∧Hh (s1+1,o2) z:=by
      cases o2
      case true=>exact⟨_,Anm u _,⟨Int.le_refl _,by show s1+1≤10001;omega,by simp,Qf⟩⟩
      obtain⟨t3,t4,t5⟩:=t2 rfl
      exact hN (N - 1) (by omega) u t4 t5 (s1+1) false (by omega) (by omega) (fun _=>t3) (by omega)
     obtain⟨z,hz,g1,g2,g3,g4⟩:=key
     simp only at g1 g2 g3 g4
     refine⟨z,walk z (.beta s1 f a b0 z hk h12 rfl hf hb0 (by rw[hq]; exact hz) hbs (by have:=q5 a (by simp); omega)),⟨by simp only;omega,g2,fun h=>?_,g4⟩⟩
     obtain⟨_,g6,g7⟩:=g3 h
     exact⟨rfl,g6,g7⟩
   · have hbf:b=false:=by
      cases b
      · rfl
      · have h11:c.op=11:=(hb rfl).1
        omega
     subst hbf
     exact⟨_,walk _ (.plain s1 hk (fun _=>⟨f,a,rfl,hf⟩) he),⟨q2,q3,fun _=>⟨rfl,q4b,hout⟩,hks⟩⟩
 · cases b
   case false=>exact⟨_,walk _ (.plain s1 hk (fun h=>absurd h h12) he),⟨q2,q3,fun _=>⟨rfl,q4b,hout⟩,hks⟩⟩
   obtain⟨h11,x,f,a,hx1,hx2,hx3⟩:=hb rfl
   have hxs:=q5 x (by rw[show r=[x] from hx1]; simp)
   have hxe:=Gp x
   have hfs:Ap f≤1000000000000:=by
    have:=Px (l:=x.l) (x:=f) (by simp[hx3])
    omega
   obtain⟨p,hp,p1,p2⟩:=Au1 f hfs
   refine⟨_,walk _ (.shift s1 x f [a] p hk h11 he hx1 hx3 hp),?_⟩
   by_cases h:p.2=0
   · rw[if_pos h]
     have:=Y0 (p1 h)
     exact⟨q2,q3,fun _=>⟨rfl,q4b,this.1⟩,this.2⟩
   · rw[if_neg h]
     exact⟨q2,q3,by simp,Qf⟩
termination_by SizeOf.sizeOf c
decreasing_by exact Cn.lt_l ‹_›
theorem nz_all (N:Nat): ∀c,NzP N c:=by
 induction N using Nat.strongRecOn with
 | _ N ih=>exact nz_rec N ih
theorem Axl (c:Cn) (hv:A6 c=true): ∃r b,Ab Tryz.prog O3 [Aa c] [] (.tup [Aa r,.bool b]) []∧Ap r≤20000∧(b=true→arA r=true):=by
 obtain⟨v1,v2⟩:=Y0 hv
 obtain⟨⟨r,s1,o1⟩,hz,g1,g2,g3,g4⟩:=nz_all 10001 c v1 v2 0 false (by omega) (by omega) (fun _=>by omega) (by omega)
 refine⟨r,!o1,?_,g4,fun h=>(g3 (by simpa using h)).2.2⟩
 have hC:Cnt (fun x=>[.var (Ai c),.var [.int .i64 0,.int .i64 0,.str [],.sl .nilT [],.sl .nilT [],.sl .nilT []],.var [.int .i64 x.1,.bool x.2]]) 2 3:=
  ⟨⟨fun _=>rfl,fun n k _=>by simp[As,Am,A0,AV.inScope]⟩,by omega,fun _ _=>rfl,fun _ _ _ _=>rfl⟩
 have hcall:=hz _ _ _ hC
 refine Ab.go mixed Afz (by simp) fun hfit Q hQ=>?_
 clear hfit
 simp -implicitDefEqProofs[Aex,Aa]
 refine Br (by simpa[Aa] using hcall) ?_
 simp -implicitDefEqProofs[Aa]
 refine Fe (fun b=>b != 1) [] (by rfl) (by rfl) ?_
 simp -implicitDefEqProofs
 refine⟨A2c [_,_,_,_] 1 _,?_⟩
 refine hQ _ _ _ ?_
 simp -implicitDefEqProofs[Aa]
theorem Ad0 (c:Cn) (hc:Ap c≤1000000000000): ∃p,Ab Tryz.prog Ih [Aa c] [] (cnE p) []∧Ap p.1≤20000:=by
 cases hv:A6 c
 · refine⟨(Az,1),?_,Qf⟩
   refine Ab.go mixed Yi (by simp) fun hfit Q hQ=>?_
   clear hfit
   simp -implicitDefEqProofs[Ts,Aa]
   refine Ah (D5 c hc) (by simp) (by simp) (by simp[Ag,Aa,Ac,Al,Af,Kd.l]) ?_
   simp -implicitDefEqProofs[hv]
   refine hQ _ _ _ ?_
   simp -implicitDefEqProofs[cnE,Aa,Cu]
 obtain⟨r,b,ht,hs,_⟩:=Axl c hv
 refine⟨if b=true then (r,0) else (Az,27),?_,by cases b<;>simp[hs,Qf]⟩
 refine Ab.go mixed Yi (by simp) fun hfit Q hQ=>?_
 clear hfit
 simp -implicitDefEqProofs[Ts,Aa]
 refine Ah (D5 c hc) (by simp) (by simp) (by simp[Ag,Aa,Ac,Al,Af,Kd.l]) ?_
 simp -implicitDefEqProofs[hv]
 refine Ah (ht) (by simp) (by simp) (by simp[Ag,Aa,Ac,Al,Af,Kd.l]) ?_
 cases b
 · simp -implicitDefEqProofs[Aa]
   refine hQ _ _ _ ?_
   simp -implicitDefEqProofs[cnE,Aa,Cu]
 · simp -implicitDefEqProofs[Aa]
   refine Ah (Ack r) (by simp) (by simp) (by simp[Ag,Aa,Ac,Al,Af,Kd.l]) ?_
   simp -implicitDefEqProofs[Aa]
   refine hQ _ _ _ ?_
   simp -implicitDefEqProofs[cnE,Aa]
end Go.Proofs.YtemdkfnenjpioaaGreatDoor
namespace Go.Proofs.YtemdkfnenjpioaaGreatDoor
open Go
attribute [local simp] Ar aev Ax A7 start AV.cells AV.undef Bc Be Bh Bl Bj AV.isCell Bf A1 Bi
attribute [local simp] fin A9 A8 Bb AV.strip Ay A5 AV.inScope Am A0 As
attribute [local simp] Ca Cg
open Classical in
noncomputable def nmM (c:Cn):Cn × Int:=if h:Ap c≤1000000000000 then (Ad0 c h).choose else (Az,0)
theorem nmM_call (c:Cn) (h:Ap c≤1000000000000):Ab Tryz.prog Ih [Aa c] [] (cnE (nmM c)) []∧Ap (nmM c).1≤20000:=by
 rw[nmM,dif_pos h]; exact (Ad0 c h).choose_spec
theorem finS_ok {p:Sm × Int} (h:(He p).2=0):p.2=0∧Ct p.1=true∧He p=(p.1,0):=by
 unfold He at h ⊢
 split at h
 · simp at h
 · rename_i hn
   rw[if_neg hn]
   simp only[not_or,Bool.not_eq_false] at hn
   exact⟨by simpa using hn.1,hn.2,rfl⟩
theorem Aig: ∀(h:Nat) (s:Sm),Kt h s→(∀ x,C2 x=true→Ap x.con≤1000000000000)→C1 s
 | 0,_,ht,_=>ht.elim
 | h+1,s,ht,hn=>by
   rw[Hz]
   exact⟨hn s ht.1,fun x hx=>Aig h x (ht.2 x hx) hn⟩
theorem node_con {s:Sm} (h:C2 s=true):Ap s.con≤1000000000000:=by
 have h':=h
 simp only[C2,Bool.and_eq_true] at h'
 have h2:=h'.2.1
 unfold m2 at h2
 split at h2
 · simp only[A6,Bool.and_eq_true,decide_eq_true_eq] at h2;omega
 · rw[Ws] at h2
   simp only[Bool.and_eq_true] at h2
   have hl:s.con.l=[]:=by
    have:=h2.2
    cases hl:s.con.l with
    | nil=>rfl
    | cons x xs=>rw[hl] at this;simp[Az,Cn.l,Bt] at this
   have:=Gp s.con
   rw[hl] at this
   simp[Bu] at this
   omega
theorem A1a {s:Sm} (h:Ct s=true):C1 s:=Aig 400 s (Wh h) fun _ h=>node_con h
end Go.Proofs.YtemdkfnenjpioaaGreatDoor
