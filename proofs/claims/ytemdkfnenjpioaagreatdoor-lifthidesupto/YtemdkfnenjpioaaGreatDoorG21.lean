/- Joined: Grw M1 M2 M3 M4 M5 M6. -/
import Derived.Test.YtemdkfnenjpioaaGreatDoorG10
import Derived.Laws.Externs
import Derived.Lib.Walk
import Derived.WalkKit
import Derived.Shelf.Abstract
import Derived.Test.YtemdkfnenjpioaaGreatDoorG18
set_option linter.unusedSimpArgs false
set_option linter.unusedVariables false
set_option linter.unusedSectionVars false
set_option linter.all false
set_option maxHeartbeats 4000000
set_option maxRecDepth 10000
namespace Go.Proofs.YtemdkfnenjpioaaGreatDoor
open Go Go.RowKit Go.Shelf Go.Proofs
set_option maxHeartbeats 1000000 in
set_option maxRecDepth 100000 in
theorem Az8 (n:Nat) (w:World) (h0:0 < n) (hn:n≤1099511627776):
 Calls Tryz.prog 236 #[.slice none 0 0,.int .i64 n] w fun e w'=>∃(nc:Nat) (cs:Array Value),n≤nc∧cs.size=nc∧e= .returned (.slice (some ⟨w.heap.size,0,none⟩) 0 nc)∧w'= { w with drawn:=w.drawn+1,heap:=w.heap.push (.cells cs 25) }:=by
 have hb:Tryz.t25.bytes=24:=by kernel_rfl
 have hneg: ¬((n:Int) < 0):=by omega
 have hpos:(0:Int) < (n:Int):=by omega
 have hA: ¬281474976710656 < Builtin.nextslicecap n 0 * Tryz.t25.bytes:=by
  have:=growslice_fits (need:=n) (old:=0) (bytes:=24) h0 (by omega)
  rw[hb]; omega
 have hB:(n:Int) * (Tryz.t25.bytes:Int)≤281474976710656:=by rw[hb]; omega
 have hC:(n:Int)≤9223372036854775807:=by omega
 have hD: ¬n=0:=by omega
 clear hb
 go_enter Tryz.func236,Tryz.ntmps236
 go_wp2
 all_goals first
  | (exfalso;omega)
  | (go_ret
     refine⟨(Question.appendCap n 0 25).cut (w.tape w.drawn (Question.appendCap n 0 25)),by simp only[Question.cut]; omega,_,?_,rfl,rfl⟩
     simp[Builtin.zeroCells,Question.cut])
set_option maxHeartbeats 1000000 in
set_option maxRecDepth 100000 in
theorem Axr (w:World):Calls Tryz.prog 236 #[.slice none 0 0,.int .i64 0] w fun e w'=>e= .returned (.slice none 0 0)∧w'=w:=by
 go_enter Tryz.func236,Tryz.ntmps236
 go_wp2
 all_goals go_ret
 all_goals exact⟨rfl,rfl⟩
def Q3 (n:Nat) (H:List HB):AV:=if n=0 then .sl .nilT [] else .sl (.own H.length) []
def La (n:Nat) (H:List HB):List HB:=if n=0 then H else H++[.tok 0 1 25]
theorem A01 (n:Nat) (hn:n≤1099511627776) (H:List HB):Ab Tryz.prog Alr [.sl .nilT [],.int .i64 n] H (Q3 n H) (La n H):=by
 refine⟨by kernel_rfl,fun F g w vs _ hs hr=>?_⟩
 obtain⟨v,u,rfl,hv,hu⟩:=U2 hr
 obtain rfl:u= .int .i64 n:=(E1 hu).1
 obtain rfl:v= .slice none 0 0:=by
  obtain⟨_,h | ⟨_,_,_,_,_,_,_,_,_,h⟩⟩:=Ep hv
  · exact h.2.1
  · exact absurd h (by simp[RT])
 by_cases h0:n=0
 · subst h0
   refine (Axr w).mono ?_
   rintro _ w' ⟨rfl,rfl⟩
   refine⟨_,F,g,rfl,by simpa[Q3] using hv,by simpa[La] using hs,by simpa[La] using Ext.refl _ _ _ _⟩
 · refine (Az8 n w (by omega) hn).mono ?_
   rintro _ w' ⟨nc,cs,h1,h2,rfl,rfl⟩
   obtain⟨F',g',f0,f1,f2,f3,f4⟩:=Aom hs (H':=H++[.tok 0 1 25]) (t:=H.length) (n:=0) (k:=1) (cap:=nc) (ty:=25) (by simp) (fun x hx=>by
    by_cases hlt:x < H.length
    · rw[List.getElem?_append_left hlt]
    · rw[List.getElem?_eq_none (by simp;omega),List.getElem?_eq_none (by omega)]) (by simp) (by simp) (.inl rfl) (vs:=cs) (e:=25) (fun _=>rfl) (by omega) (Nat.zero_le _)
    (w':={ w with drawn:=w.drawn+1,heap:=w.heap.push (.cells cs 25) }) rfl ⟨rfl,rfl⟩
   refine⟨_,F',g',rfl,?_,by simpa[La,h0] using f1,by simpa[La,h0] using f2⟩
   simp only[Q3,if_neg h0,R]
   exact⟨by simp,.inr ⟨w.heap.size,0,none,nc,1,rfl,Nat.zero_le _,⟨by omega,by simp⟩,by simp[RE],⟨_,_,f4,Nat.le_refl _,fun _=>⟨f3,rfl,rfl,rfl⟩⟩⟩⟩
end Go.Proofs.YtemdkfnenjpioaaGreatDoor
namespace Go.Proofs.YtemdkfnenjpioaaGreatDoor
open Go
attribute [-simp] Int.not_lt Int.not_le
theorem Asm {e:TypeId} {A G:List HB} {tok:Tok} {els ys:List (List AV)} {k:Nat} (h:owns A.length G tok els k) (hl:els.length+ys.length≤A4) (hk:C0 k els=true) (hk2:C0 k ys=true):
 ∃tok' G',C7 k e tok els ys (A++G)=some (.sl tok' (els++ys),A++G')∧owns A.length G' tok' (els++ys) k∧G.length≤G'.length:=by
 rcases h with⟨rfl,rfl⟩ | ⟨j,e',rfl,hj⟩
 · cases ys with
   | nil=>exact⟨.nilT,G,by simp[C7,Ha,A4,C0],.inl ⟨rfl,rfl⟩,Nat.le_refl _⟩
   | cons y ys=>
     refine⟨.own (A++G).length,G++[.tok (ys.length+1) k e],?_,?_,by simp⟩
     · simp only[List.length_nil,Nat.zero_add,List.length_cons] at hl
       simp[C7,hk,hk2,Ha,hl]
     · exact .inr ⟨G.length,e,by simp,by simp⟩
 · have hjl:=(List.getElem?_eq_some_iff.1 hj).1
   refine⟨.own (A.length+j),G.set j (.tok (els.length+ys.length) k (if e'=e then e else 0)),?_,.inr ⟨j,(if e'=e then e else 0),rfl,?_⟩,by simp⟩
   · have hg:(A++G)[A.length+j]? =some (.tok els.length k e'):=by
      rw[List.getElem?_append_right (by omega)]; simpa using hj
     have hset:(A++G).set (A.length+j) (.tok (els.length+ys.length) k (if e'=e then e else 0))=A++G.set j (.tok (els.length+ys.length) k (if e'=e then e else 0)):=by
      rw[List.set_append_right _ _ (by omega)]; simp
     simp only[C7,hl,hk,hk2,and_self,if_true,hg,hset]
   · simp[List.getElem?_set_self hjl]
theorem Asb {e:TypeId} {P:Program} {A G:List HB} {tok:Tok} {els ys:List (List AV)} {k:Nat} {dst:Option Nat} {l:List AO} {kf:List Fr} {Q:Bg} {t:List AV} (h:owns A.length G tok els k) (hl:els.length+ys.length≤A4) (hk:C0 k els=true) (hk2:C0 k ys=true)
 (hn: ∀tok' G',owns A.length G' tok' (els++ys) k→G.length≤G'.length→AR_ P l kf Q (Ax t dst (.sl tok' (els++ys))) (A++G')):OPT P (C7 k e tok els ys (A++G)) dst l kf Q t:=by
 obtain⟨tok',G',e1,e2,e3⟩:=Asm (e:=e) h hl hk hk2
 rw[e1]
 exact hn tok' G' e2 e3
theorem AWp.loopG {P:Program} {x:AC} {t0:List AV} {A G0:List HB} {Q:AX→List AV→List HB→Prop} (bs:List Nat) (I:Nat→(Nat→AV)→(Nat→List AV)→List HB→Prop) (n0:Nat)
 (hb: ∀b ∈ bs,∃cs,A[b]? =some (.var cs)) (h0:I n0 (Aq t0) (Dx A) G0)
 (hr: ∀n f h G,I n f h G→AWp P x (At t0 x.dsts f) (Bo A bs h++G) (Rj t0 x.dsts A bs I n Q)):AWp P (.loop x) t0 (A++G0) Q:=by
 refine AWp.loop (fun n t H=>∃f h G,t=At t0 x.dsts f∧H=Bo A bs h++G∧I n f h G) n0 ⟨Aq t0,Dx A,G0,(Xd _ _).symm,by rw[Ac5 bs A hb],h0⟩ ?_
 rintro n t H ⟨f,h,G,rfl,rfl,hI⟩
 refine AWp.mono (hr n f h G hI) ?_
 intro e t' H' hq
 cases e with
 | normal=>
   obtain⟨e1,m,h',G',hm,e2,hI'⟩:=hq
   exact⟨m,hm,Aq t',h',G',e1.symm,e2,hI'⟩
 | exit _=>exact hq
 | ret=>exact hq
theorem grow_own (n:Nat): ∃tok,Q3 n []= .sl tok []∧owns 0 (La n []) tok [] 1:=by
 unfold Q3 La
 by_cases h:n=0
 · rw[if_pos h,if_pos h]; exact⟨_,rfl,E7 _ _ _⟩
 · rw[if_neg h,if_neg h]; exact⟨_,rfl,.inr ⟨0,25,rfl,rfl⟩⟩
def Gn:List (List Kd)→List Kd
 | []=>[]
 | l :: ls=>l++Gn ls
theorem Aog: ∀(ls:List (List Kd)) (k:Nat) (h:k < ls.length),Gn (ls.take (k+1))=Gn (ls.take k)++ls[k]
 | [],k,h=>by simp at h
 | l :: ls,0,_=>by simp[Gn]
 | l :: ls,k+1,h=>by
   simp only[List.take_succ_cons,Gn,List.getElem_cons_succ]
   rw[Aog ls k (by simpa using h),List.append_assoc]
attribute [local simp] Ar aev Ax A7 start AV.cells AV.undef Bc Be Bh Bl Bj AV.isCell Bf A1 Bi
attribute [local simp] fin A9 A8 Bb AV.strip Ay A5 AV.inScope Am A0 As
attribute [local simp] Ca Cg
theorem Ai4 (l:List Kd):Ab Tryz.prog Qc [.sl .none (l.map Ao)] [] (.sl .none (l.map Ao)) []:=by
 cases l with
 | nil=>
   refine Ab.nilOr (A:=[]) (B:=[]) ?_ ?_
   · refine Ab.go mixed Xe (by simp) fun hfit Q hQ=>?_
     clear hfit
     simp -implicitDefEqProofs[Tx,Ff]
     refine hQ _ _ _ ?_
     simp -implicitDefEqProofs 
   · refine Ab.go mixed Xe (by simp) fun hfit Q hQ=>?_
     clear hfit
     simp -implicitDefEqProofs[Tx,Ff,C7,A4,C0,Ha]
     refine hQ _ _ _ ?_
     simp -implicitDefEqProofs 
 | cons s l=>
   refine Ab.go mixed Xe (by simp) fun hfit Q hQ=>?_
   have hln:l.length+1≤A4:=by simpa[Bn,AV.fits] using hfit.1.1
   clear hfit
   simp -implicitDefEqProofs[Tx,Ff,C7,hln,C0,Ha]
   refine hQ _ _ _ ?_
   simp -implicitDefEqProofs 
def E3:List (List Kd)→Nat
 | []=>0
 | l :: ls=>l.length+E3 ls
theorem Ang (ls:List (List Kd)) (k:Nat) (h:k < ls.length):E3 (ls.take (k+1))=E3 (ls.take k)+ls[k].length:=by
 induction ls generalizing k with
 | nil=>simp at h
 | cons l ls ih=>
   cases k with
   | zero=>simp[E3]
   | succ k=>
     simp only[List.take_succ_cons,E3,List.getElem_cons_succ]
     rw[ih k (by simpa using h)]; omega
theorem Apt (ls:List (List Kd)) (k:Nat):E3 (ls.take k)≤E3 ls:=by
 induction ls generalizing k with
 | nil=>simp
 | cons l ls ih=>
   cases k with
   | zero=>simp[E3]
   | succ k=>simp only[List.take_succ_cons,E3]; have:=ih k;omega
theorem Ayw (ls:List (List Kd)):(Gn ls).length=E3 ls:=by
 induction ls with
 | nil=>rfl
 | cons l ls ih=>simp[E3,Gn,ih]
def S8 (ls:List (List Kd)):List (List AV):=ls.map fun l=>[.sl .none (l.map Ao)]
theorem Ayr (ls:List (List Kd)) (hT:E3 ls≤1000000000):Ab Tryz.prog Ae2 [.sl .none (S8 ls)] [] (.sl .none ((Gn ls).map Ao)) []:=by
 refine Ab.go mixed Av4 (by simp) fun hfit Q hQ=>?_
 have hln:ls.length≤1073741824:=by simpa[Bn,AV.fits,A4,S8] using hfit.1.1
 clear hfit
 simp -implicitDefEqProofs[Agg,S8]
 refine B5 (AWp.loopI [] (fun n f h G=>∃k:Nat,k+n=ls.length∧f 11= .int .i64 k∧f 3= .int .i64 (E3 (ls.take k))∧G=[]) (ls.length) (by simp) ⟨0,by simp,rfl,rfl,rfl⟩ ?_)
 rintro n f h G ⟨k,hk,h11,h3,rfl⟩
 refine AWp.run mixed fun Q2 hQ2=>?_
 simp -implicitDefEqProofs[AC.dsts,Au,At,Bo,h11,h3]
 by_cases hlt:k < ls.length
 · have ht:=Ang ls k hlt
   have hle:=Apt ls (k+1)
   have hnn: ¬((E3 (ls.take k):Int)+(ls[k].length:Int) < 0):=by omega
   simp -implicitDefEqProofs[hlt,Ba (n:=(k:Int)+1) (by omega) (by omega),Ba (n:=(E3 (ls.take k):Int)+(ls[k].length:Int)) (by omega) (by omega),hnn]
   refine hQ2 _ _ _ (Cb (n - 1) (h) rfl (by omega) (by simp -implicitDefEqProofs[AC.dsts,Au,At,Aq]) ?_)
   refine⟨k+1,by omega,by simp[Aq],?_,rfl⟩
   simp -implicitDefEqProofs[Aq,ht]
 · have hkl:ls.take k=ls:=List.take_of_length_le (by omega)
   simp -implicitDefEqProofs[hlt,hkl]
   refine hQ2 _ _ _ (Ce ?_)
   show KE _ 0 _ Q _ _
   simp -implicitDefEqProofs 
   obtain⟨tok0,hv,ho⟩:=grow_own (E3 ls)
   have hgrow:=A01 (E3 ls) (by omega) []
   rw[hv] at hgrow
   generalize La (E3 ls) []=G0 at hgrow ho
   refine Br (r:=.sl tok0 []) (by simpa using hgrow) ?_
   simp -implicitDefEqProofs 
   refine B5 (AWp.loopG (A:=[]) (G0:=G0) [] (fun n f h G=>∃(k:Nat) (tok:Tok),k+n=ls.length∧f 27= .int .i64 k∧f 6= .sl tok ((Gn (ls.take k)).map Ao)∧owns 0 G tok ((Gn (ls.take k)).map Ao) 1) ls.length (by simp) ⟨0,tok0,by simp,rfl,rfl,by simpa[Gn] using ho⟩ ?_)
   clear hlt hkl hk h11 h3 hgrow ho hv hQ2 Q2
   rintro n f h G ⟨k,tok,hk,h27,h6,hown⟩
   refine AWp.run mixed fun Q2 hQ2=>?_
   simp -implicitDefEqProofs[AC.dsts,Au,At,Bo,h27,h6]
   by_cases hlt:k < ls.length
   · have ht:=Ang ls k hlt
     have hle:=Apt ls (k+1)
     have hfl:=Ayw (ls.take k)
     simp -implicitDefEqProofs[hlt]
     refine Asb (A:=[]) (by simpa using hown) (by simp[A4]; omega) (Ek _ _ fun _=>by simp) (Ek _ _ fun _=>by simp) fun tok' G' hown' hG'=>?_
     simp -implicitDefEqProofs[Ba (n:=(k:Int)+1) (by omega) (by omega)]
     refine hQ2 _ _ _ (Cb (n - 1) (h) rfl (by omega) (by simp -implicitDefEqProofs[AC.dsts,Au,At,Aq]) ?_)
     have e:(Gn (ls.take (k+1))).map Ao=(Gn (ls.take k)).map Ao++ls[k].map Ao:=by rw[Aog _ _ hlt]; simp
     refine⟨k+1,tok',by omega,by simp[Aq],?_,?_⟩
     · rw[e]; simp[Aq]
     · rw[e]; exact hown'
   · have hkl:ls.take k=ls:=List.take_of_length_le (by omega)
     simp -implicitDefEqProofs[hlt,hkl]
     refine hQ2 _ _ _ (Ce ?_)
     show KE _ 2 _ Q _ _
     simp -implicitDefEqProofs 
     refine hQ _ _ _ ?_
     simp -implicitDefEqProofs 
def Qg (s:Sm) (i:Int):List Kd:=if s.op=4 then s.ks else if s.op=6 then (if i=0 then s.ks else s.ks++s.more) else []
theorem Amo (s:Sm) (i:Int) (h1:s.ks.length≤1000000) (h2:s.more.length≤1000000):Ab Tryz.prog R1 [An s,.int .i64 i] [] (.sl .none ((Qg s i).map Ao)) []:=by
 have hcc:=Ayr [s.ks,s.more] (by simp[E3]; omega)
 have hcat:Gn [s.ks,s.more]=s.ks++s.more:=by simp[Gn]
 rw[hcat] at hcc
 have key:Qg s i=if s.op=4 then s.ks else if s.op=6 then (if i=0 then s.ks else s.ks++s.more) else []:=rfl
 generalize s.ks++s.more=kk at hcc key
 refine Ab.go mixed Ail (by simp) fun hfit Q hQ=>?_
 clear hfit
 simp -implicitDefEqProofs[Acy,An,Ak s]
 by_cases a1:s.op=4
 · simp -implicitDefEqProofs[a1]
   refine hQ _ _ _ ?_
   simp -implicitDefEqProofs[key,a1]
 · by_cases a2:s.op=6
   · by_cases a3:i=0
     · have key0:Qg s i=s.ks:=by simp[Qg,a2,a3]
       simp -implicitDefEqProofs[a1,a2,a3]
       refine hQ _ _ _ ?_
       simp -implicitDefEqProofs[key0]
     · simp -implicitDefEqProofs[a1,a2,a3]
       refine Ah hcc (by simp[S8]) (by simp) (by simp[S8]) ?_
       simp -implicitDefEqProofs 
       refine hQ _ _ _ ?_
       simp -implicitDefEqProofs[key,a1,a2,a3]
   · simp -implicitDefEqProofs[a1,a2]
     refine hQ _ _ _ ?_
     simp -implicitDefEqProofs[key,a1,a2]
end Go.Proofs.YtemdkfnenjpioaaGreatDoor
namespace Go.Proofs.YtemdkfnenjpioaaGreatDoor
open Go
attribute [-simp] Int.not_lt Int.not_le
def Es:Sm:=.mk 0 0 [] Az (.mk []) [] [] [] []
def smE (p:Sm × Int):AV:=.tup [An p.1,.int .i64 p.2]
theorem Aib (o n:Int) (t:List UInt8) (c:Cn) (k:Kd) (ks more:List Kd) (names:List (List UInt8)) (l:List Sm):B6 (.mk o n t c k ks more names l)=[.int .i64 o,.int .i64 n,.str t,.int .i64 c.op,.int .i64 c.n,.str c.s,.sl .none (c.k.l.map Ao),.sl .none (Af c.names),.sl .none (c.l.map Ai),
 .sl .none (k.l.map Ao),.sl .none (ks.map Ao),.sl .none (more.map Ao),.sl .none (Af names),.sl .none (l.map B6)]:=Ak _
theorem Jw:B6 Es=[.int .i64 0,.int .i64 0,.str [],.int .i64 0,.int .i64 0,.str [],.sl .none [],.sl .none [],.sl .none [],.sl .none [],.sl .none [],.sl .none [],.sl .none [],.sl .none []]:=by
 rw[Ak]; rfl
theorem Lr (p:Sm × Int) (n:Nat):(smE p).inScope n=true:=by simp[smE,AV.inScope,Am]
def Er (o:Int) (ks more:List Kd) (i:Nat):Int:=if o=4 then ks.length else if o=6 then (if i=0 then ks.length else ks.length+more.length) else 0
theorem Ajh (s:Sm) (i:Nat):((Qg s (i:Int)).length:Int)=Er s.op s.ks s.more i:=by
 unfold Qg Er
 split
 · rfl
 · split
   · by_cases h:i=0
     · subst h;simp
     · rw[if_neg (by omega),if_neg h]; simp
   · rfl
mutual
def rbS (f:Cn→Int→Cn × Int):Sm→Int→Sm × Int
 | .mk o n s c k ks more names l,d=>
   if D2 o=true∧(f c d).2≠0 then (Es,(f c d).2) else
   if (De f o ks more l 0 d).2≠0 then (Es,(De f o ks more l 0 d).2) else
   (.mk o n s (if D2 o=true then (f c d).1 else Az) k ks more names (De f o ks more l 0 d).1,0)
def De (f:Cn→Int→Cn × Int) (o:Int) (ks more:List Kd):List Sm→Nat→Int→List Sm × Int
 | [],_,_=>([],0)
 | x :: xs,i,d=>if (rbS f x (d+Er o ks more i)).2≠0 then ([],(rbS f x (d+Er o ks more i)).2) else
   ((rbS f x (d+Er o ks more i)).1 :: (De f o ks more xs (i+1) d).1,(De f o ks more xs (i+1) d).2)
end
theorem rbS_eq (f:Cn→Int→Cn × Int) (s:Sm) (d:Int):rbS f s d=if D2 s.op=true∧(f s.con d).2≠0 then (Es,(f s.con d).2) else
 if (De f s.op s.ks s.more s.l 0 d).2≠0 then (Es,(De f s.op s.ks s.more s.l 0 d).2) else
 (.mk s.op s.n s.s (if D2 s.op=true then (f s.con d).1 else Az) s.k s.ks s.more s.names (De f s.op s.ks s.more s.l 0 d).1,0):=by
 cases s;rw[rbS]; rfl
def Kt:Nat→Sm→Prop
 | 0,_=>False
 | h+1,s=>C2 s=true∧∀x ∈ s.l,Kt h x
mutual
theorem Afo: ∀(s:Sm) (left d:Int) (h:Nat),401 - d≤h→(mS s left d).2=true→Kt h s
 | .mk o n s c k ks more names l,left,d,h,hh,hm=>by
   rw[mS] at hm
   split at hm
   · cases hm
   · rename_i hc
     have h1: ¬400 < d:=fun e=>hc (.inr (.inl e))
     have h3:C2 (.mk o n s c k ks more names l)=true:=by
      cases e:C2 (.mk o n s c k ks more names l)
      · exact absurd (.inr (.inr e)) hc
      · rfl
     obtain⟨h',rfl⟩: ∃h',h=h'+1:=⟨h - 1,by omega⟩
     exact⟨h3,Aft l left d _ h' (by omega) hm⟩
theorem Aft: ∀(l:List Sm) (left d n:Int) (h:Nat),401 - (d+1)≤h→(mSs l left d n).2=true→∀x ∈ l,Kt h x
 | [],_,_,_,_,_,_=>by simp
 | y :: ys,left,d,n,h,hh,hm=>by
   rw[mSs] at hm
   split at hm
   · rename_i hc
     intro x hx
     rcases List.mem_cons.1 hx with e | hx
     · rw[e]; exact Afo y _ _ h hh hc
     · exact Aft ys left d _ h hh hm x hx
   · cases hm
end
theorem Wh {s:Sm} (h:Ct s=true):Kt 400 s:=Afo s 20000 1 400 (by omega) h
theorem k1000 {ks:List Kd} (h:Ej ks=true):ks.length≤1000:=by
 unfold Ej at h
 simp only[Bool.and_eq_true,decide_eq_true_eq] at h
 omega
theorem Ake {s:Sm} (h:C2 s=true):s.ks.length≤1000∧s.more.length≤1000:=by
 simp only[C2,Bool.and_eq_true] at h
 have h5:=h.2.2.2.2
 unfold m5 at h5
 split at h5
 · simp only[Bool.and_eq_true,decide_eq_true_eq] at h5
   exact⟨k1000 h5.2.1,by rw[h5.2.2]; simp⟩
 · split at h5
   · simp only[Bool.and_eq_true] at h5
     exact⟨k1000 h5.1,k1000 h5.2.1⟩
   · simp only[Bool.and_eq_true,decide_eq_true_eq] at h5
     rw[h5.2.1,h5.2.2]; simp
theorem Al3 {s:Sm} (h:C2 s=true) (ho:D2 s.op=true):A6 s.con=true:=by
 simp only[C2,Bool.and_eq_true] at h
 have:=h.2.1
 rwa [m2,if_pos ho] at this
theorem Abq {s:Sm} (h:C2 s=true) (i:Nat):0≤Er s.op s.ks s.more i∧Er s.op s.ks s.more i≤2000:=by
 have:=Ake h
 unfold Er
 (repeat' split)<;>omega
attribute [local simp] Ar aev Ax A7 start AV.cells AV.undef Bc Be Bh Bl Bj AV.isCell Bf A1 Bi
attribute [local simp] fin A9 A8 Bb AV.strip Ay A5 AV.inScope Am A0 As
attribute [local simp] Ca Cg
theorem cnZ_op:Az.op=0:=rfl
theorem cnZ_n:Az.n=0:=rfl
theorem cnZ_s:Az.s=[]:=rfl
theorem cnZ_k:Az.k.l=[]:=rfl
theorem Asg:Az.names=[]:=rfl
theorem cnZ_l:Az.l=[]:=rfl
set_option maxHeartbeats 2000000 in
theorem A1r (m:Nat) (cap:List AV) (A:List HB) (f:Cn→Int→Cn × Int) (hvA: ∀b,b < A.length→∃cs,A[b]? =some (.var cs)) (hsc: ∀n,A.length≤n→As n A=true) (hcap: ∀n,A.length≤n→Am n cap=true)
 (hcb: ∀(c:Cn) (d:Int),A6 c=true→0≤d→d≤1000000→Ab Tryz.prog m ([Aa c,.int .i64 d]++cap) A (cnE (f c d)) A)
 (h:Nat) (s:Sm) (d:Int) (ht:Kt (h+1) s) (h0:0≤d) (hd:d+2000 * (h+1:Nat)≤1000000)
 (hrec: ∀x ∈ s.l,∀d:Int,0≤d→d+2000 * h≤1000000→Ab Tryz.prog Jh [An x,.int .i64 d,.fn (.func m) [] cap] A (smE (rbS f x d)) A):
 Ab Tryz.prog Jh [An s,.int .i64 d,.fn (.func m) [] cap] A (smE (rbS f s d)) A:=by
 have hsA:=hsc A.length (Nat.le_refl _)
 have hcA:=hcap A.length (Nat.le_refl _)
 have key:=rbS_eq f s d
 have hn:=ht.1
 have hks:=Ake hn
 refine Ab.go mixed Ans (by simp) fun hfit Q hQ=>?_
 have hf:=Rh (c:=s) (by simpa[Bn,An,AV.fits] using hfit.1)
 have hln:s.l.length≤1073741824:=hf.2.2.2.2.1
 clear hfit hf
 simp -implicitDefEqProofs[-A3,Z0,An,Ak s]
 rw[A3]
 simp -implicitDefEqProofs[-A3]
 rw[A3]
 refine C3 (by rfl) ?_
 simp -implicitDefEqProofs 
 refine Bp (Ai4 s.ks) (by simp) (by simp) (by simp[Ag,Aa,Ac,Al,Af,Kd.l,An,Ak]) ?_
 simp -implicitDefEqProofs 
 refine Bp (Ai4 s.more) (by simp) (by simp) (by simp[Ag,Aa,Ac,Al,Af,Kd.l,An,Ak]) ?_
 simp -implicitDefEqProofs 
 refine Bp (Nf s.names) (by simp) (by simp) (by simp[Ag,Aa,Ac,Al,Af,Kd.l,An,Ak]) ?_
 simp -implicitDefEqProofs 
 refine Ah (Xf s.op) (by simp) (by simp) (by simp[Ag,Aa,Ac,Al,Af,Kd.l,An,Ak]) ?_
 cases ho:D2 s.op
 · rw[if_neg (by simp[ho])] at key
   simp only[ho,Bool.false_eq_true,if_false] at key
   simp -implicitDefEqProofs 
   have hbound:=fun i:Nat=>Amo s (i:Int) (by omega) (by omega)
   have hbl:=fun i:Nat=>Ajh s i
   have hble:=fun i:Nat=>Abq hn i
   have hln2:s.l.length≤1073741824:=hln
   refine B5 (AWp.loopI [A.length+2] (fun n f' h G=>∃(k:Nat) (tok:Tok) (P:List Sm),k+n=s.l.length∧P.length=k∧f' 53= .int .i64 k∧
    h (A.length+2)=[.int .i64 s.op,.int .i64 s.n,.str s.s,.int .i64 0,.int .i64 0,.str [],.sl .nilT [],.sl .nilT [],.sl .nilT [],.sl .none (s.k.l.map Ao),.sl .none (s.ks.map Ao),.sl .none (s.more.map Ao),.sl .none (Af s.names),.sl tok (P.map B6)]∧
    owns (A.length+3) G tok (P.map B6) 14∧(De f s.op s.ks s.more (s.l.drop k) k d).2=(De f s.op s.ks s.more s.l 0 d).2∧P++(De f s.op s.ks s.more (s.l.drop k) k d).1=(De f s.op s.ks s.more s.l 0 d).1) s.l.length (by simp) ⟨0,.nilT,[],by simp,rfl,rfl,by simp[Dx],E7 _ _ _,rfl,rfl⟩ ?_)
   rintro n f' h' G ⟨k,tok,P,hk,hP,h53,ho',hown,he2,he1⟩
   refine AWp.run mixed fun Q2 hQ2=>?_
   simp -implicitDefEqProofs[AC.dsts,Au,At,Bo,h53,ho']
   by_cases hlt:k < s.l.length
   · have hd':=List.drop_eq_getElem_cons hlt
     have hrec:=hrec s.l[k] (List.getElem_mem _) (d+Er s.op s.ks s.more k) (by have:=hble k;omega) (by have:=hble k;omega)
     rw[hd',De] at he1 he2
     simp -implicitDefEqProofs[hlt,Ak s.l[k]]
     refine Fe (fun _=>true) [] (by rfl) (by rfl) ?_
     simp -implicitDefEqProofs 
     refine Bp (hbound k) (by simp) (by simp) (by simp[Ag,Aa,Ac,Al,Af,Kd.l,An,Ak]) ?_
     simp -implicitDefEqProofs[hbl k,Ba (n:=d+Er s.op s.ks s.more k) (by have:=hble k;omega) (by have:=hble k;omega)]
     refine Vb (r:=smE (rbS f s.l[k] (d+Er s.op s.ks s.more k))) (fun H hH=>?_) ?_
     · obtain⟨M,rfl⟩:=Yn hvA (fun _ _=>rfl) hH
       have:=hrec.suffix rfl (by simp[Am,AV.inScope,hcA]) hsA M
       simpa[An,Ak s.l[k]] using this
     generalize rbS f s.l[k] (d+Er s.op s.ks s.more k)=p at he1 he2 ⊢
     obtain⟨y,e2⟩:=p
     simp only at he1 he2
     simp -implicitDefEqProofs[smE,An,Ak y]
     refine⟨fun b cs _ hb=>by simpa using Dj (L:=[_]) hb,?_⟩
     by_cases hz:e2=0
     · rw[if_neg (by simpa using hz)] at he1 he2
       simp only at he1 he2
       simp -implicitDefEqProofs[hz,A1]
       refine Rc (A++[_,_,_]) (G++[_,_]) (by simp only[List.append_assoc,List.cons_append,List.nil_append]; rfl) (by simpa using E5 hown) (by simp[A4]; omega) (Ek _ _ Amc) (by simp) fun tok' G' hown' hG'=>?_
       simp -implicitDefEqProofs[Ba (n:=(k:Int)+1) (by omega) (by omega)]
       refine hQ2 _ _ _ (Cb (n - 1) (fun _=>[.int .i64 s.op,.int .i64 s.n,.str s.s,.int .i64 0,.int .i64 0,.str [],.sl .nilT [],.sl .nilT [],.sl .nilT [],.sl .none (s.k.l.map Ao),.sl .none (s.ks.map Ao),.sl .none (s.more.map Ao),.sl .none (Af s.names),.sl tok' ((P++[y]).map B6)]) (G':=G') (by simp[Bo,Ak y]) (by omega) (by simp -implicitDefEqProofs[AC.dsts,Au,At,Aq]) ?_)
       refine⟨k+1,tok',P++[y],by omega,by simp[hP],by simp[Aq],by simp,by simpa[Ak y] using hown',he2,by rw[← he1]; simp⟩
     · rw[if_pos hz] at he1 he2
       simp only at he1 he2
       have hz':(e2 != 0)=true:=by simpa using hz
       have e1:rbS f s d=(Es,e2):=by rw[key,← he2,if_pos hz]
       simp -implicitDefEqProofs[hz',hz]
       refine hQ2 _ _ _ (Dg ?_)
       show KR _ _ Q _ _
       simp -implicitDefEqProofs 
       refine hQ _ _ _ ?_
       simp -implicitDefEqProofs[e1,smE,An,Jw,hsA]
   · have hPe:P=(De f s.op s.ks s.more s.l 0 d).1:=by rw[← he1,List.drop_eq_nil_of_le (by omega)]; simp[De]
     have hs0:(De f s.op s.ks s.more s.l 0 d).2=0:=by rw[← he2,List.drop_eq_nil_of_le (by omega)]; rfl
     rw[if_neg (by simpa using hs0),← hPe] at key
     simp -implicitDefEqProofs[hlt]
     refine hQ2 _ _ _ (Ce ?_)
     show KE _ 0 _ Q _ _
     simp -implicitDefEqProofs 
     refine hQ _ _ _ ?_
     simp -implicitDefEqProofs[key,smE,An,Aib,cnZ_op,cnZ_n,cnZ_s,cnZ_k,Asg,cnZ_l,J3,hsA]
 · have hv:=Al3 hn ho
   have hcbs:=fun L=>(hcb s.con d hv h0 (by omega)).suffix rfl (by simp[Am,hcA]) hsA L
   clear hv
   generalize f s.con d=p at key hcbs
   obtain⟨c,e⟩:=p
   simp only[ho,true_and,if_true] at key
   simp -implicitDefEqProofs 
   refine Fq (first:=[]) (r:=cnE (c,e)) (by simpa[Aa,Ac s.con] using hcbs [_,_,_]) ?_
   simp -implicitDefEqProofs[cnE,Aa,Ac c]
   by_cases he:e=0
   case neg=>
    rw[if_pos he] at key
    have he':(e != 0)=true:=by simpa using he
    simp -implicitDefEqProofs[he',he]
    refine hQ _ _ _ ?_
    simp -implicitDefEqProofs[key,smE,An,Jw,hsA]
   rw[if_neg (by simpa using he)] at key
   simp -implicitDefEqProofs[he]
   have hbound:=fun i:Nat=>Amo s (i:Int) (by omega) (by omega)
   have hbl:=fun i:Nat=>Ajh s i
   have hble:=fun i:Nat=>Abq hn i
   have hln2:s.l.length≤1073741824:=hln
   refine B5 (AWp.loopI [A.length+2] (fun n f' h G=>∃(k:Nat) (tok:Tok) (P:List Sm),k+n=s.l.length∧P.length=k∧f' 53= .int .i64 k∧
    h (A.length+2)=[.int .i64 s.op,.int .i64 s.n,.str s.s,.int .i64 c.op,.int .i64 c.n,.str c.s,.sl .none (c.k.l.map Ao),.sl .none (Af c.names),.sl .none (c.l.map Ai),.sl .none (s.k.l.map Ao),.sl .none (s.ks.map Ao),.sl .none (s.more.map Ao),.sl .none (Af s.names),.sl tok (P.map B6)]∧
    owns (A.length+4) G tok (P.map B6) 14∧(De f s.op s.ks s.more (s.l.drop k) k d).2=(De f s.op s.ks s.more s.l 0 d).2∧P++(De f s.op s.ks s.more (s.l.drop k) k d).1=(De f s.op s.ks s.more s.l 0 d).1) s.l.length (by simp) ⟨0,.nilT,[],by simp,rfl,rfl,by simp[Dx],E7 _ _ _,rfl,rfl⟩ ?_)
   rintro n f' h' G ⟨k,tok,P,hk,hP,h53,ho',hown,he2,he1⟩
   refine AWp.run mixed fun Q2 hQ2=>?_
   simp -implicitDefEqProofs[AC.dsts,Au,At,Bo,h53,ho']
   by_cases hlt:k < s.l.length
   · have hd':=List.drop_eq_getElem_cons hlt
     have hrec:=hrec s.l[k] (List.getElem_mem _) (d+Er s.op s.ks s.more k) (by have:=hble k;omega) (by have:=hble k;omega)
     rw[hd',De] at he1 he2
     simp -implicitDefEqProofs[hlt,Ak s.l[k]]
     refine Fe (fun _=>true) [] (by rfl) (by rfl) ?_
     simp -implicitDefEqProofs 
     refine Bp (hbound k) (by simp) (by simp) (by simp[Ag,Aa,Ac,Al,Af,Kd.l,An,Ak]) ?_
     simp -implicitDefEqProofs[hbl k,Ba (n:=d+Er s.op s.ks s.more k) (by have:=hble k;omega) (by have:=hble k;omega)]
     refine Vb (r:=smE (rbS f s.l[k] (d+Er s.op s.ks s.more k))) (fun H hH=>?_) ?_
     · obtain⟨M,rfl⟩:=Yn hvA (fun _ _=>rfl) hH
       have:=hrec.suffix rfl (by simp[Am,AV.inScope,hcA]) hsA M
       simpa[An,Ak s.l[k]] using this
     generalize rbS f s.l[k] (d+Er s.op s.ks s.more k)=p at he1 he2 ⊢
     obtain⟨y,e2⟩:=p
     simp only at he1 he2
     simp -implicitDefEqProofs[smE,An,Ak y]
     refine⟨fun b cs _ hb=>by simpa using Dj (L:=[_]) hb,?_⟩
     by_cases hz:e2=0
     · rw[if_neg (by simpa using hz)] at he1 he2
       simp only at he1 he2
       simp -implicitDefEqProofs[hz,A1]
       refine Rc (A++[_,_,_,_]) (G++[_,_]) (by simp only[List.append_assoc,List.cons_append,List.nil_append]; rfl) (by simpa using E5 hown) (by simp[A4]; omega) (Ek _ _ Amc) (by simp) fun tok' G' hown' hG'=>?_
       simp -implicitDefEqProofs[Ba (n:=(k:Int)+1) (by omega) (by omega)]
       refine hQ2 _ _ _ (Cb (n - 1) (fun _=>[.int .i64 s.op,.int .i64 s.n,.str s.s,.int .i64 c.op,.int .i64 c.n,.str c.s,.sl .none (c.k.l.map Ao),.sl .none (Af c.names),.sl .none (c.l.map Ai),.sl .none (s.k.l.map Ao),.sl .none (s.ks.map Ao),.sl .none (s.more.map Ao),.sl .none (Af s.names),.sl tok' ((P++[y]).map B6)]) (G':=G') (by simp[Bo,Ak y]) (by omega) (by simp -implicitDefEqProofs[AC.dsts,Au,At,Aq]) ?_)
       refine⟨k+1,tok',P++[y],by omega,by simp[hP],by simp[Aq],by simp,by simpa[Ak y] using hown',he2,by rw[← he1]; simp⟩
     · rw[if_pos hz] at he1 he2
       simp only at he1 he2
       have hz':(e2 != 0)=true:=by simpa using hz
       have e1:rbS f s d=(Es,e2):=by rw[key,← he2,if_pos hz]
       simp -implicitDefEqProofs[hz',hz]
       refine hQ2 _ _ _ (Dg ?_)
       show KR _ _ Q _ _
       simp -implicitDefEqProofs 
       refine hQ _ _ _ ?_
       simp -implicitDefEqProofs[e1,smE,An,Jw,hsA]
   · have hPe:P=(De f s.op s.ks s.more s.l 0 d).1:=by rw[← he1,List.drop_eq_nil_of_le (by omega)]; simp[De]
     have hs0:(De f s.op s.ks s.more s.l 0 d).2=0:=by rw[← he2,List.drop_eq_nil_of_le (by omega)]; rfl
     rw[if_neg (by simpa using hs0),← hPe] at key
     simp -implicitDefEqProofs[hlt]
     refine hQ2 _ _ _ (Ce ?_)
     show KE _ 0 _ Q _ _
     simp -implicitDefEqProofs 
     refine hQ _ _ _ ?_
     simp -implicitDefEqProofs[key,smE,An,Aib,hsA]
theorem Ug (m:Nat) (cap:List AV) (A:List HB) (f:Cn→Int→Cn × Int) (hvA: ∀b,b < A.length→∃cs,A[b]? =some (.var cs)) (hsc: ∀n,A.length≤n→As n A=true) (hcap: ∀n,A.length≤n→Am n cap=true)
 (hcb: ∀(c:Cn) (d:Int),A6 c=true→0≤d→d≤1000000→Ab Tryz.prog m ([Aa c,.int .i64 d]++cap) A (cnE (f c d)) A):
 ∀(h:Nat) (s:Sm) (d:Int),Kt h s→0≤d→d+2000 * h≤1000000→Ab Tryz.prog Jh [An s,.int .i64 d,.fn (.func m) [] cap] A (smE (rbS f s d)) A
 | 0,_,_,ht,_,_=>ht.elim
 | h+1,s,d,ht,h0,hd=>A1r m cap A f hvA hsc hcap hcb h s d ht h0 hd fun x hx d h0 hd=>Ug m cap A f hvA hsc hcap hcb h x d (ht.2 x hx) h0 hd
end Go.Proofs.YtemdkfnenjpioaaGreatDoor
namespace Go.Proofs.YtemdkfnenjpioaaGreatDoor
open Go
attribute [-simp] Int.not_lt Int.not_le
theorem Ahs:C1 Es:=by
 rw[Hz]; exact⟨by decide,fun x hx=>by simp[Es,Sm.l] at hx⟩
mutual
theorem Ad5 (f:Cn→Int→Cn × Int): ∀(s:Sm) (d:Int) (h:Nat),Kt h s→0≤d→d+2000 * h≤1000000→(∀ c d,A6 c=true→0≤d→d≤1000000→Ap (f c d).1≤1000000000000)→C1 (rbS f s d).1
 | .mk o n s c k ks more names l,d,0,ht,_,_,_=>ht.elim
 | .mk o n s c k ks more names l,d,h+1,ht,h0,hd,hf=>by
   rw[rbS]
   split
   · exact Ahs
   · split
     · exact Ahs
     · rw[Hz]
       refine⟨?_,An2 f l o ks more 0 d h (fun x hx=>ht.2 x hx) (Abq ht.1) h0 (by omega) hf⟩
       show Ap (if D2 o=true then (f c d).1 else Az)≤_
       split
       · rename_i ho
         exact hf c d (Al3 ht.1 ho) h0 (by omega)
       · decide
theorem An2 (f:Cn→Int→Cn × Int): ∀(l:List Sm) (o:Int) (ks more:List Kd) (i:Nat) (d:Int) (h:Nat),(∀ x ∈ l,Kt h x)→(∀ i,0≤Er o ks more i∧Er o ks more i≤2000)→0≤d→d+2000+2000 * h≤1000000→(∀ c d,A6 c=true→0≤d→d≤1000000→Ap (f c d).1≤1000000000000)→∀x ∈ (De f o ks more l i d).1,C1 x
 | [],_,_,_,_,_,_,_,_,_,_,_=>by simp[De]
 | y :: ys,o,ks,more,i,d,h,ht,hb,h0,hd,hf=>by
   rw[De]
   split
   · simp
   · intro x hx
     have h1:=hb i
     have e1:=Ad5 f y (d+Er o ks more i) h (ht y (by simp)) (by omega) (by omega) hf
     have e2:=An2 f ys o ks more (i+1) d h (fun x hx=>ht x (by simp[hx])) hb h0 hd hf
     rcases List.mem_cons.1 hx with e | hx
     · rw[e]; exact e1
     · exact e2 x hx
end
def He (p:Sm × Int):Sm × Int:=if p.2≠0∨Ct p.1=false then (Es,6) else (p.1,0)
def F6:List AV:=[.int .i64 0,.int .i64 0,.str [],.int .i64 0,.int .i64 0,.str [],.sl .nilT [],.sl .nilT [],.sl .nilT [],.sl .nilT [],.sl .nilT [],.sl .nilT [],.sl .nilT [],.sl .nilT []]
attribute [local simp] Ar aev Ax A7 start AV.cells AV.undef Bc Be Bh Bl Bj AV.isCell Bf A1 Bi
attribute [local simp] fin A9 A8 Bb AV.strip Ay A5 AV.inScope Am A0 As
attribute [local simp] Ca Cg
theorem Ade (p:Sm × Int) (hc:C1 p.1):Ab Tryz.prog Ni [An p.1,.int .i64 p.2] [] (smE (He p)) []:=by
 obtain⟨y,e⟩:=p
 have key:He (y,e)=if e≠0∨Ct y=false then (Es,6) else (y,0):=rfl
 refine Ab.go mixed Ahk (by simp) fun hfit Q hQ=>?_
 clear hfit
 simp -implicitDefEqProofs[Ad3,An,Ak y]
 by_cases he:e=0
 · have he':(e != 0)=false:=by simpa using he
   simp -implicitDefEqProofs[he',he]
   refine Ah (V4 y hc) (by simp) (by simp) (by simp[Ag,Aa,Ac,Al,Af,Kd.l,An,Ak]) ?_
   cases hf:Ct y
   · rw[if_pos (.inr hf)] at key
     simp -implicitDefEqProofs 
     refine hQ _ _ _ ?_
     simp -implicitDefEqProofs[key,smE,An,Jw]
   · rw[if_neg (by simp[he,hf])] at key
     simp -implicitDefEqProofs 
     refine hQ _ _ _ ?_
     simp -implicitDefEqProofs[key,smE,An,Ak y]
 · have he':(e != 0)=true:=by simpa using he
   rw[if_pos (.inl he)] at key
   simp -implicitDefEqProofs[he',he]
   refine hQ _ _ _ ?_
   simp -implicitDefEqProofs[key,smE,An,Jw]
theorem Au3 (c:Cn) (d by' fr:Int) (A:List HB) (i j:Nat) (hi:A[i]? =some (.var [.int .i64 by'])) (hj:A[j]? =some (.var [.int .i64 fr])) (hsc:As A.length A=true)
 (hv:A6 c=true) (h0:0≤d) (hd:d≤1000000) (hb0:0≤by') (hb:by'≤20000) (hf0:0≤fr) (hf:fr≤1000000):
 Ab Tryz.prog Ur [Aa c,.int .i64 d,.ptr i 0,.ptr j 0] A (cnE (shS c by' (fr+d))) A:=by
 have hil:=(List.getElem?_eq_some_iff.1 hi).1
 have hjl:=(List.getElem?_eq_some_iff.1 hj).1
 have hi': ∀L:List HB,(A++L)[i]? =some (.var [.int .i64 by']):=fun L=>by rw[List.getElem?_append_left hil]; exact hi
 have hj': ∀L:List HB,(A++L)[j]? =some (.var [.int .i64 fr]):=fun L=>by rw[List.getElem?_append_left hjl]; exact hj
 have hsh:=Le c by' (fr+d) (Ac0 hv) hb0 hb (by omega) (by omega)
 generalize shS c by' (fr+d)=p at hsh ⊢
 obtain⟨r,e⟩:=p
 refine Ab.go mixed Atw (by simp) fun hfit Q hQ=>?_
 clear hfit
 simp -implicitDefEqProofs[Ao5,Aa,Ac c,hi',hj',Ba (n:=fr+d) (by omega) (by omega)]
 refine Ah hsh (by simp) (Co _ 0) (by simp[Aa,Ac c]) ?_
 simp -implicitDefEqProofs[cnE,Aa,Ac r]
 refine hQ _ _ _ ?_
 simp -implicitDefEqProofs[hsc,cnE,Aa,Ac r]
def shM (s:Sm) (d fr:Int):Sm × Int:=if Ct s=false then (Es,1) else He (rbS (fun c k=>shS c d (fr+k)) s 0)
theorem Axh (s:Sm) (d fr:Int) (hc:C1 s) (hd0:0≤d) (hd:d≤20000) (hf0:0≤fr) (hf:fr≤20000):Ab Tryz.prog Z9 [An s,.int .i64 d,.int .i64 fr] [] (smE (shM s d fr)) []:=by
 have a1: ¬fr < 0:=by omega
 have a2: ¬d < -20000:=by omega
 have a3: ¬20000 < d:=by omega
 have a4: ¬d < 0:=by omega
 have a5: ¬20001 < fr:=by omega
 refine Ab.go mixed A0f (by simp) fun hfit Q hQ=>?_
 clear hfit
 simp -implicitDefEqProofs[An6,An,Ak s]
 refine Ah (V4 s hc) (by simp) (by simp) (by simp[Ag,Aa,Ac,Al,Af,Kd.l,An,Ak]) ?_
 cases hf1:Ct s
 · have key:shM s d fr=(Es,1):=by rw[shM,if_pos hf1]
   simp -implicitDefEqProofs 
   refine hQ _ _ _ ?_
   simp -implicitDefEqProofs[key,smE,An,Jw]
 have key:shM s d fr=He (rbS (fun c k=>shS c d (fr+k)) s 0):=by rw[shM,if_neg (by simp[hf1])]
 have ht:=Wh hf1
 simp -implicitDefEqProofs[a1,a2,a3,a4,a5,Qp,L3]
 have hreb:=Ug Ur [.ptr 1 0,.ptr 2 0] [.var (B6 s),.var [.int .i64 d],.var [.int .i64 fr],.var F6] (fun c k=>shS c d (fr+k)) (fun b hb=>by
  match b,hb with
  | 0,_=>exact⟨_,rfl⟩
  | 1,_=>exact⟨_,rfl⟩
  | 2,_=>exact⟨_,rfl⟩
  | 3,_=>exact⟨_,rfl⟩) (fun n _=>by simp[As,Am,A0,AV.inScope,F6,Ak s]) (fun n hn=>by simp only[List.length_cons,List.length_nil] at hn;simp[Am,AV.inScope]; omega)
  (fun c k hv h0 h1=>Au3 c k d fr _ 1 2 rfl rfl (by simp[As,Am,A0,AV.inScope,F6,Ak s]) hv h0 h1 hd0 hd hf0 (by omega)) 400 s 0 ht (by omega) (by omega)
 have hcr:=Ad5 (fun c k=>shS c d (fr+k)) s 0 400 ht (by omega) (by omega) (fun c k _ _ _=>by have:=Sd (c:=c) (d:=d) (fr:=fr+k); omega)
 have hfin:=Ade _ hcr
 clear ht hcr
 generalize rbS (fun c k=>shS c d (fr+k)) s 0=p at key hreb hfin
 obtain⟨y,e⟩:=p
 refine Br (r:=smE (y,e)) (by simpa[An,Ak s,F6] using hreb) ?_
 clear hreb
 simp -implicitDefEqProofs[smE,An,Ak y]
 generalize He (y,e)=q at hfin key
 obtain⟨z,g⟩:=q
 refine Ah hfin (by simp) (Lr _ 0) (by simp[An,Ak y]) ?_
 simp -implicitDefEqProofs[smE,An,Ak z]
 refine hQ _ _ _ ?_
 simp -implicitDefEqProofs[key,smE,An,Ak z]
end Go.Proofs.YtemdkfnenjpioaaGreatDoor
namespace Go.Proofs.YtemdkfnenjpioaaGreatDoor
open Go
mutual
theorem reb_le (L:Cn→Int→Cn) (hL: ∀c bd,Ap (L c bd)=1): ∀(c:Cn) (bd left:Int),Ap (reb L c bd left).1≤Ap c
 | .mk o n s k ns l,bd,left=>by
   rw[reb]
   split
   · rw[Ap]; show 1≤_;omega
   · split
     · rw[hL,Ap]; omega
     · have:=Ahd L hL l (if opB o=true then IntKind.i64.wrap (bd+1) else bd) (left - 1)
       simp only[Ap]; omega
theorem Ahd (L:Cn→Int→Cn) (hL: ∀c bd,Ap (L c bd)=1): ∀(l:List Cn) (bd left:Int),Bu (Ci L l bd left).1≤Bu l
 | [],_,_=>by simp[Ci]
 | c :: cs,bd,left=>by
   rw[Ci]
   have h1:=reb_le L hL c bd left
   have h2:=Ahd L hL cs bd (reb L c bd left).2
   simp only[Bu]; omega
end
def Fd (l:List Cn) (c:Cn) (bd:Int):Cn:=
 if c.op≠1∨IntKind.i64.wrap (c.n - bd) < 0 then Lo c else
 match l[(IntKind.i64.wrap (c.n - bd)).toNat]? with
 | none=>Ef (IntKind.i64.wrap (c.n - l.length))
 | some x=>(reb (G8 bd 0) x 0 20000).1
theorem A1o (l:List Cn) (hl: ∀x ∈ l,Ap x≤1000000000000) (c:Cn) (bd:Int):Ap (Fd l c bd)≤1000000000000:=by
 unfold Fd
 split
 · simp[Lo,Ap,Bu]
 · split
   · simp[Ef,Ap,Bu]
   · rename_i x hx
     have:=reb_le (G8 bd 0) (Ain bd 0) x 0 20000
     have:=hl x (List.mem_of_getElem? hx)
     omega
attribute [local simp] Ar aev Ax A7 start AV.cells AV.undef Bc Be Bh Bl Bj AV.isCell Bf A1 Bi
attribute [local simp] fin A9 A8 Bb AV.strip Ay A5 AV.inScope Am A0 As
attribute [local simp] Ca Cg
theorem Aze (l:List Cn) (c:Cn) (bd:Int) (A:List HB) (i:Nat) (hi:A[i]? =some (.var [.sl .none (l.map Ai)])) (hv: ∀b,b < A.length→∃cs,A[b]? =some (.var cs)) (hs: ∀n,A.length≤n→As n A=true) (hl:l.length≤1000):
 Ab Tryz.prog Q5 [Aa c,.int .i64 bd,.ptr i 0] A (Aa (Fd l c bd)) A:=by
 have hsc:=hs A.length (Nat.le_refl _)
 have hil:=(List.getElem?_eq_some_iff.1 hi).1
 have hi': ∀L:List HB,(A++L)[i]? =some (.var [.sl .none (l.map Ai)]):=fun L=>by rw[List.getElem?_append_left hil]; exact hi
 refine Ab.go mixed Ath (by simp) fun hfit Q hQ=>?_
 clear hfit
 simp -implicitDefEqProofs[-Int.not_lt, -Int.not_le,Ag1,Aa,Ac c]
 by_cases h1:c.op=1
 · by_cases h2:IntKind.i64.wrap (c.n - bd) < 0
   · have key:Fd l c bd=Lo c:=by rw[Fd,if_pos (.inr h2)]
     simp -implicitDefEqProofs[-Int.not_lt, -Int.not_le,h1,h2]
     refine Ah (Wb c) (by simp) (by simp) (by simp[Aa,Ac,h1]) ?_
     simp -implicitDefEqProofs[-Int.not_lt, -Int.not_le,Aa]
     refine hQ _ _ _ ?_
     simp -implicitDefEqProofs[-Int.not_lt, -Int.not_le,key,Aa,hsc]
   · obtain⟨j,hj⟩: ∃j:Nat,IntKind.i64.wrap (c.n - bd)=j:=⟨_,(Int.toNat_of_nonneg (by omega)).symm⟩
     have hj0: ¬((j:Int) < 0):=by omega
     by_cases h3:j < l.length
     · have h3': ¬(l.length≤j):=by omega
       have key:Fd l c bd=(reb (G8 bd 0) l[j] 0 20000).1:=by
        rw[Fd,if_neg (by rw[hj]; simp[h1]),hj]
        simp[h3]
       simp -implicitDefEqProofs[-Int.not_lt, -Int.not_le,h1,hj,hj0,hi',h3,h3']
       obtain⟨B,hB⟩: ∃B:List HB,B=A++[.var [.int .i64 1,.int .i64 c.n,.str c.s,.sl .none (c.k.l.map Ao),.sl .none (Af c.names),.sl .none (c.l.map Ai)],.var [.int .i64 0,.int .i64 0,.str [],.sl .nilT [],.sl .nilT [],.sl .nilT []]]:=⟨_,rfl⟩
       have hBl:B.length=A.length+2:=by rw[hB]; simp
       have hBs: ∀n,B.length≤n→As n B=true:=fun n hn=>by rw[hB,Ei,hs n (by omega)]; simp[As,Am,A0,AV.inScope]
       have hBv: ∀b,b < B.length→∃cs,B[b]? =some (.var cs):=fun b hb=>by
        rw[hBl] at hb
        rw[hB]
        by_cases hlt:b < A.length
        · rw[List.getElem?_append_left hlt]; exact hv b hlt
        · rw[List.getElem?_append_right (by omega)]
          obtain hh | hh:b - A.length=0∨b - A.length=1:=by omega
          · rw[hh]; exact⟨_,rfl⟩
          · rw[hh]; exact⟨_,rfl⟩
       have hsh:=Abu bd 0 B hBs
       have hlf:=Abk bd 0 (B++[.var [.int .i64 bd],.var [.int .i64 0]]) (B.length+1) B.length (by rw[List.getElem?_append_right (by omega)]; simp) (by rw[List.getElem?_append_right (by omega)]; simp) (fun b hb=>by
        by_cases hlt:b < B.length
        · rw[List.getElem?_append_left hlt]; exact hBv b hlt
        · rw[List.getElem?_append_right (by omega)]
          simp only[List.length_append,List.length_cons,List.length_nil] at hb
          obtain hh | hh:b - B.length=0∨b - B.length=1:=by omega
          · rw[hh]; exact⟨_,rfl⟩
          · rw[hh]; exact⟨_,rfl⟩) (fun n hn=>by
        simp only[List.length_append,List.length_cons,List.length_nil] at hn
        rw[Ei,hBs n (by omega)]; simp[As,Am,AV.inScope])
       have hreb:=Yu Ig _ _ _ hlf l[j] 0 20000 (by omega) (by omega)
       rw[← key] at hreb
       generalize (reb (G8 bd 0) l[j] 0 20000).2=lf2 at hreb
       rw[hBl] at hsh hreb
       rw[hB] at hsh hreb
       clear hB hlf hBs hBv hBl
       refine Br (r:=.fn (.func Ig) [] [.ptr (A.length+2+1) 0,.ptr (A.length+2) 0]) (by simpa using hsh) ?_
       clear hsh
       simp -implicitDefEqProofs[-Int.not_lt, -Int.not_le,hi',hj,Bi,h3]
       refine Br (r:=Aa (Fd l c bd)) (by simpa[Aa,Ac l[j]] using hreb) ?_
       clear hreb
       clear key
       simp -implicitDefEqProofs[-Int.not_lt, -Int.not_le,Aa,Ac (Fd l c bd)]
       refine hQ _ _ _ ?_
       simp -implicitDefEqProofs[-Int.not_lt, -Int.not_le,Aa,Ac (Fd l c bd),hsc]
     · have h3':l.length≤j:=by omega
       have key:Fd l c bd=Ef (IntKind.i64.wrap (c.n - l.length)):=by
        rw[Fd,if_neg (by rw[hj]; simp[h1]),hj]
        simp[h3]
       simp -implicitDefEqProofs[-Int.not_lt, -Int.not_le,h1,hj,hj0,hi',h3,h3']
       refine Ah (Afg (IntKind.i64.wrap (c.n - l.length))) (by simp) (by simp) (by simp[Ag,Aa,Ac,Al,Af,Kd.l]) ?_
       simp -implicitDefEqProofs[-Int.not_lt, -Int.not_le,Aa]
       refine hQ _ _ _ ?_
       simp -implicitDefEqProofs[-Int.not_lt, -Int.not_le,key,Aa,hsc]
 · have key:Fd l c bd=Lo c:=by rw[Fd,if_pos (.inl h1)]
   simp -implicitDefEqProofs[-Int.not_lt, -Int.not_le,h1]
   refine Ah (Wb c) (by simp) (by simp) (by simp[Ag,Aa,Ac,Al,Af,Kd.l]) ?_
   simp -implicitDefEqProofs[-Int.not_lt, -Int.not_le,Aa]
   refine hQ _ _ _ ?_
   simp -implicitDefEqProofs[-Int.not_lt, -Int.not_le,key,Aa,hsc]
theorem Atr (l:List Cn) (A:List HB) (i:Nat) (hi:A[i]? =some (.var [.sl .none (l.map Ai)])) (hv: ∀b,b < A.length→∃cs,A[b]? =some (.var cs)) (hs: ∀n,A.length≤n→As n A=true) (hl:l.length≤1000) (hz: ∀x ∈ l,Ap x≤1000000000000):
 Lg Q5 [.ptr i 0] A (Fd l) where
 call c bd:=Aze l c bd A i hi hv hs hl
 vars:=hv
 sc:=hs
 csc n hn:=by
  have h1:=(List.getElem?_eq_some_iff.1 hi).1
  simp[Am,AV.inScope]; omega
 strip:=by simp[Ay,AV.strip]
 size c bd:=A1o l hz c bd
def suM (c:Cn) (l:List Cn):Cn × Int:=if A6 c=false∨l.all A6=false then (Az,1) else if 1000 < l.length then (Az,5) else F8 (Fd l) c
theorem T5 (c:Cn) (l:List Cn) (hc:Ap c≤1000000000000) (hz: ∀x ∈ l,Ap x≤1000000000000):Ab Tryz.prog Lv [Aa c,.sl .none (l.map Ai)] [] (cnE (suM c l)) []:=by
 have hall:=Aut l hz
 generalize hav:l.all A6=av at hall
 refine Ab.go mixed Av9 (by simp) fun hfit Q hQ=>?_
 clear hfit
 simp -implicitDefEqProofs[-Int.not_lt, -Int.not_le,Akc,Aa]
 refine Ah (D5 c hc) (by simp) (by simp) (by simp[Ag,Aa,Ac,Al,Af,Kd.l]) ?_
 cases hv:A6 c
 · have key:suM c l=(Az,1):=by rw[suM,if_pos (.inl hv)]
   simp -implicitDefEqProofs[-Int.not_lt, -Int.not_le]
   refine hQ _ _ _ ?_
   simp -implicitDefEqProofs[-Int.not_lt, -Int.not_le,key,cnE,Aa,Cu]
 simp -implicitDefEqProofs[-Int.not_lt, -Int.not_le]
 refine Ah (hall) (by simp) (by simp) (by simp[Ag,Aa,Ac,Al,Af,Kd.l]) ?_
 cases av
 · have key:suM c l=(Az,1):=by rw[suM,if_pos (.inr hav)]
   simp -implicitDefEqProofs[-Int.not_lt, -Int.not_le]
   refine hQ _ _ _ ?_
   simp -implicitDefEqProofs[-Int.not_lt, -Int.not_le,key,cnE,Aa,Cu]
 by_cases hl:1000 < l.length
 · have key:suM c l=(Az,5):=by rw[suM,if_neg (by rw[hv,hav]; simp)]; simp[hl]
   have hl':(1000:Int) < (l.length:Int):=by omega
   simp -implicitDefEqProofs[-Int.not_lt, -Int.not_le,hl,hl']
   refine hQ _ _ _ ?_
   simp -implicitDefEqProofs[-Int.not_lt, -Int.not_le,key,cnE,Aa,Cu]
 have key:suM c l=F8 (Fd l) c:=by rw[suM,if_neg (by rw[hv,hav]; simp)]; simp[hl]
 have hrep:=Zf Q5 [.ptr 1 0] [.var (Ai c),.var [.sl .none (l.map Ai)],.var [.int .i64 0,.int .i64 0,.str [],.sl .nilT [],.sl .nilT [],.sl .nilT []]] _
  (Atr l _ 1 rfl (fun b hb=>by
   match b,hb with
   | 0,_=>exact⟨_,rfl⟩
   | 1,_=>exact⟨_,rfl⟩
   | 2,_=>exact⟨_,rfl⟩) (fun n _=>by simp[As,Am,A0,AV.inScope]) (by omega) hz) c
 have hl': ¬(1000:Int) < (l.length:Int):=by omega
 simp -implicitDefEqProofs[-Int.not_lt, -Int.not_le,hl,hl']
 refine Br (r:=cnE (suM c l)) (by simpa[Aa,key] using hrep) ?_
 clear hrep key
 generalize hq:suM c l=q
 obtain⟨r,e⟩:=q
 simp -implicitDefEqProofs[-Int.not_lt, -Int.not_le,cnE,Aa,Ac r]
 refine hQ _ _ _ ?_
 simp -implicitDefEqProofs[-Int.not_lt, -Int.not_le,hq,cnE,Aa,Ac r]
end Go.Proofs.YtemdkfnenjpioaaGreatDoor
namespace Go.Proofs.YtemdkfnenjpioaaGreatDoor
open Go
attribute [-simp] Int.not_lt Int.not_le
def shX (c:Cn) (d fr:Int):Cn × Int:=if A6 c=true∧20000 < d then (Az,2) else shS c d fr
mutual
def sb (l:List Cn):Cn→Int→Cn × Int
 | .mk o n s k ns cl,d=>if o=1 then (if IntKind.i64.wrap (n - d) < 0 then (.mk o n s k ns cl,0) else
  match l[(IntKind.i64.wrap (n - d)).toNat]? with
  | some x=>shX x d 0
  | none=>(.mk o (IntKind.i64.wrap (n - l.length)) s k ns cl,0))
  else if (sbs l cl (if opB o=true then d+1 else d)).2≠0 then (Az,(sbs l cl (if opB o=true then d+1 else d)).2) else (.mk o n s k ns (sbs l cl (if opB o=true then d+1 else d)).1,0)
def sbs (l:List Cn):List Cn→Int→List Cn × Int
 | [],_=>([],0)
 | x :: xs,d=>if (sb l x d).2≠0 then ([],(sb l x d).2) else ((sb l x d).1 :: (sbs l xs d).1,(sbs l xs d).2)
end
theorem sb_eq (l:List Cn) (c:Cn) (d:Int):sb l c d=if c.op=1 then (if IntKind.i64.wrap (c.n - d) < 0 then (c,0) else
 match l[(IntKind.i64.wrap (c.n - d)).toNat]? with
 | some x=>shX x d 0
 | none=>(.mk c.op (IntKind.i64.wrap (c.n - l.length)) c.s c.k c.names c.l,0))
 else if (sbs l c.l (if opB c.op=true then d+1 else d)).2≠0 then (Az,(sbs l c.l (if opB c.op=true then d+1 else d)).2) else (.mk c.op c.n c.s c.k c.names (sbs l c.l (if opB c.op=true then d+1 else d)).1,0):=by
 cases c;rw[sb]; rfl
attribute [local simp] Ar aev Ax A7 start AV.cells AV.undef Bc Be Bh Bl Bj AV.isCell Bf A1 Bi
attribute [local simp] fin A9 A8 Bb AV.strip Ay A5 AV.inScope Am A0 As
attribute [local simp] Ca Cg
theorem Ap6 (c:Cn) (d fr:Int) (hc:Ap c≤1000000000000) (hd0:0≤d) (hd:d≤1000000000) (hf0:0≤fr) (hf1:fr≤1000000000):
 Ab Tryz.prog Fg [Aa c,.int .i64 d,.int .i64 fr] [] (cnE (shX c d fr)) []:=by
 by_cases h:A6 c=true∧20000 < d
 case neg=>
  by_cases hd':20000 < d
  · have hv:A6 c=false:=by
     cases hv:A6 c
     · rfl
     · exact absurd ⟨hv,hd'⟩ h
    have key:shX c d fr=(Az,1):=by rw[shX,if_neg h,shS,if_neg (by simp[hv])]
    refine Ab.go mixed Od (by simp) fun hfit Q hQ=>?_
    clear hfit
    simp -implicitDefEqProofs[Ns,Aa]
    refine Ah (D5 c hc) (by simp) (by simp) (by simp[Aa]) ?_
    simp -implicitDefEqProofs[hv]
    refine hQ _ _ _ ?_
    simp -implicitDefEqProofs[key,cnE,Aa,Cu]
  · have key:shX c d fr=shS c d fr:=by rw[shX,if_neg h]
    rw[key]
    exact Le c d fr hc hd0 (by omega) hf0 hf1
 case pos=>
  have key:shX c d fr=(Az,2):=by rw[shX,if_pos h]
  obtain⟨hv,hd'⟩:=h
  have a1: ¬fr < 0:=by omega
  have a2: ¬d < -20000:=by omega
  refine Ab.go mixed Od (by simp) fun hfit Q hQ=>?_
  clear hfit
  simp -implicitDefEqProofs[Ns,Aa]
  refine Ah (D5 c hc) (by simp) (by simp) (by simp[Aa]) ?_
  simp -implicitDefEqProofs[hv,a1,a2,hd']
  refine hQ _ _ _ ?_
  simp -implicitDefEqProofs[key,cnE,Aa,Cu]
set_option maxHeartbeats 2000000 in
theorem As8 (l:List Cn) (hz: ∀x ∈ l,Ap x≤1000000000000) (c:Cn) (d:Int) (h0:0≤d) (hd:d+Cp c≤10000000)
 (hrec: ∀x ∈ c.l,∀d:Int,0≤d→d+Cp x≤10000000→Ab Tryz.prog N8 [Aa x,.sl .none (l.map Ai),.int .i64 d] [] (cnE (sb l x d)) []):
 Ab Tryz.prog N8 [Aa c,.sl .none (l.map Ai),.int .i64 d] [] (cnE (sb l c d)) []:=by
 have hdep:=K9 c
 have key:=sb_eq l c d
 have hB:(opB c.op=false∧(if opB c.op=true then d+1 else d)=d)∨(opB c.op=true∧(if opB c.op=true then d+1 else d)=d+1):=by
  cases opB c.op<;>simp
 generalize (if opB c.op=true then d+1 else d)=ub at key hB
 refine Ab.go mixed Axy (by simp) fun hfit Q hQ=>?_
 have hf:=H8 (c:=c) (by simpa[Bn,Aa,AV.fits] using hfit.1)
 have hln:c.l.length≤1073741824:=hf.2.2.2.2.2.2.2.1
 have hll:l.length≤1073741824:=by simpa[Bn,AV.fits,A4] using hfit.2.1.1
 clear hfit hf
 simp -implicitDefEqProofs[-A3,Aha,Aa,Ac c]
 rw[A3]
 simp -implicitDefEqProofs[-A3]
 by_cases h1:c.op=1
 · rw[if_pos h1] at key
   by_cases h2:IntKind.i64.wrap (c.n - d) < 0
   · rw[if_pos h2] at key
     simp -implicitDefEqProofs[h1,h2]
     refine hQ _ _ _ ?_
     simp -implicitDefEqProofs[key,cnE,Aa,Ac c,h1]
   rw[if_neg h2] at key
   obtain⟨j,hj⟩: ∃j:Nat,IntKind.i64.wrap (c.n - d)=j:=⟨_,(Int.toNat_of_nonneg (by omega)).symm⟩
   have hj0: ¬((j:Int) < 0):=by omega
   rw[hj,Int.toNat_natCast] at key
   by_cases h3:j < l.length
   · rw[List.getElem?_eq_getElem h3] at key
     simp only at key
     have hsh:=Ap6 l[j] d 0 (hz _ (List.getElem_mem _)) h0 (by omega) (by omega) (by omega)
     generalize shX l[j] d 0=p at key hsh
     obtain⟨r,e⟩:=p
     simp -implicitDefEqProofs[h1,hj,hj0,h3]
     refine Ah hsh (by simp) (Co _ 0) (by simp[Aa,Ac l[j]]) ?_
     simp -implicitDefEqProofs[cnE,Aa,Ac r]
     refine hQ _ _ _ ?_
     simp -implicitDefEqProofs[key,cnE,Aa,Ac r]
   · rw[List.getElem?_eq_none (by omega)] at key
     simp only at key
     simp -implicitDefEqProofs[h1,hj,hj0,h3]
     refine hQ _ _ _ ?_
     simp -implicitDefEqProofs[key,cnE,Aa,Ga,h1]
 rw[if_neg h1] at key
 have hbe:(c.op == 1)=false:=by simpa using h1
 rw[A3,A3]
 simp -implicitDefEqProofs[-A3,h1]
 rw[A3]
 refine C3 (by rfl) ?_
 simp -implicitDefEqProofs[-A3]
 refine Bp (Nf c.names) (by simp) (by simp) (by simp[Ag,Aa,Ac,Al,Af,Kd.l]) ?_
 simp -implicitDefEqProofs[-A3,Ag,Al c.k]
 refine E2 (fun f=>f 2= .int .i64 ub) (fun Q' hn hr=>?_) (fun f hI=>?_)
 · simp -implicitDefEqProofs 
   rcases hB with⟨hB,e⟩ | ⟨hB,e⟩
   · have hb:((¬ c.op=9∧¬c.op=10)∧¬c.op=11)∧¬c.op=13:=by simpa[opB] using hB
     obtain⟨⟨⟨b1,b2⟩,b3⟩,b4⟩:=hb
     simp -implicitDefEqProofs[b1,b2,b3,b4]
     refine hn _ (by simp -implicitDefEqProofs[AC.dsts,Au,At,Aq]) ?_
     simp[Aq,e]
   · have hb:c.op=9∨c.op=10∨c.op=11∨c.op=13:=by simpa[opB,or_assoc] using hB
     have hw:=Ba (n:=d+1) (by omega) (by omega)
     rcases hb with b | b | b | b
     · have q9:decide (c.op=9)=true:=decide_eq_true b
       simp -implicitDefEqProofs[q9,hw]
       refine hn _ (by simp -implicitDefEqProofs[AC.dsts,Au,At,Aq]) ?_
       simp[Aq,e]
     · have q9:decide (c.op=9)=false:=decide_eq_false (by omega)
       have q10:decide (c.op=10)=true:=decide_eq_true b
       simp -implicitDefEqProofs[q9,q10,hw]
       refine hn _ (by simp -implicitDefEqProofs[AC.dsts,Au,At,Aq]) ?_
       simp[Aq,e]
     · have q9:decide (c.op=9)=false:=decide_eq_false (by omega)
       have q10:decide (c.op=10)=false:=decide_eq_false (by omega)
       have q11:decide (c.op=11)=true:=decide_eq_true b
       simp -implicitDefEqProofs[q9,q10,q11,hw]
       refine hn _ (by simp -implicitDefEqProofs[AC.dsts,Au,At,Aq]) ?_
       simp[Aq,e]
     · have q9:decide (c.op=9)=false:=decide_eq_false (by omega)
       have q10:decide (c.op=10)=false:=decide_eq_false (by omega)
       have q11:decide (c.op=11)=false:=decide_eq_false (by omega)
       have q13:decide (c.op=13)=true:=decide_eq_true b
       simp -implicitDefEqProofs[q9,q10,q11,q13,hw]
       refine hn _ (by simp -implicitDefEqProofs[AC.dsts,Au,At,Aq]) ?_
       simp[Aq,e]
 have hub:0≤ub∧ub≤d+1:=by rcases hB with⟨_,e⟩ | ⟨_,e⟩<;>omega
 clear hB hbe
 simp -implicitDefEqProofs[AC.dsts,Au,At,hI]
 refine B5 (AWp.loopI [2] (fun n f' h G=>∃(k:Nat) (tok:Tok) (P:List Cn),k+n=c.l.length∧P.length=k∧f' 69= .int .i64 k∧
  h 2=[.int .i64 c.op,.int .i64 c.n,.str c.s,.sl .none (c.k.l.map Ao),.sl .none (Af c.names),.sl tok (P.map Ai)]∧
  owns 3 G tok (P.map Ai) 6∧(sbs l (c.l.drop k) ub).2=(sbs l c.l ub).2∧P++(sbs l (c.l.drop k) ub).1=(sbs l c.l ub).1) c.l.length (by simp) ⟨0,.nilT,[],by simp,rfl,rfl,by simp[Dx],E7 _ _ _,rfl,rfl⟩ ?_)
 rintro n f' h' G ⟨k,tok,P,hk,hP,h69,ho',hown,he2,he1⟩
 refine AWp.run mixed fun Q2 hQ2=>?_
 simp -implicitDefEqProofs[AC.dsts,Au,At,Bo,h69,ho']
 by_cases hlt:k < c.l.length
 · have hd':=List.drop_eq_getElem_cons hlt
   have hdm:=S7 (List.getElem_mem hlt)
   have hrec:=hrec c.l[k] (List.getElem_mem _) ub hub.1 (by omega)
   rw[hd',sbs] at he1 he2
   simp -implicitDefEqProofs[hlt,Ac c.l[k]]
   generalize sb l c.l[k] ub=p at he1 he2 hrec
   obtain⟨y,e2⟩:=p
   simp only at he1 he2
   refine Ah hrec (by simp) (Co _ 0) (by simp[Aa,Ac c.l[k]]) ?_
   simp -implicitDefEqProofs[cnE,Aa,Ac y]
   by_cases hz2:e2=0
   · rw[if_neg (by simpa using hz2)] at he1 he2
     simp only at he1 he2
     simp -implicitDefEqProofs[hz2,A1]
     refine Rc [_,_,_] (G++[_,_]) (by simp only[List.append_assoc,List.cons_append,List.nil_append]; rfl) (by simpa using E5 hown) (by simp[A4]; omega) (Ek _ _ Hs) (by simp) fun tok' G' hown' hG'=>?_
     simp -implicitDefEqProofs[Ba (n:=(k:Int)+1) (by omega) (by omega)]
     refine hQ2 _ _ _ (Cb (n - 1) (fun _=>[.int .i64 c.op,.int .i64 c.n,.str c.s,.sl .none (c.k.l.map Ao),.sl .none (Af c.names),.sl tok' ((P++[y]).map Ai)]) (G':=G') (by simp[Bo,Ac y]) (by omega) (by simp -implicitDefEqProofs[AC.dsts,Au,At,Aq]) ?_)
     refine⟨k+1,tok',P++[y],by omega,by simp[hP],by simp[Aq],by simp,by simpa[Ac y] using hown',he2,by rw[← he1]; simp⟩
   · rw[if_pos hz2] at he1 he2
     simp only at he1 he2
     have hz':(e2 != 0)=true:=by simpa using hz2
     have e1:sb l c d=(Az,e2):=by rw[key,← he2,if_pos hz2]
     simp -implicitDefEqProofs[hz',hz2]
     refine hQ2 _ _ _ (Dg ?_)
     show KR _ _ Q _ _
     simp -implicitDefEqProofs 
     refine hQ _ _ _ ?_
     simp -implicitDefEqProofs[e1,cnE,Aa,Cu]
 · have hPe:P=(sbs l c.l ub).1:=by rw[← he1,List.drop_eq_nil_of_le (by omega)]; simp[sbs]
   have hs0:(sbs l c.l ub).2=0:=by rw[← he2,List.drop_eq_nil_of_le (by omega)]; rfl
   rw[if_neg (by simpa using hs0),← hPe] at key
   simp -implicitDefEqProofs[hlt]
   refine hQ2 _ _ _ (Ce ?_)
   show KE _ 2 _ Q _ _
   simp -implicitDefEqProofs 
   refine hQ _ _ _ ?_
   simp -implicitDefEqProofs[key,cnE,Aa,Ga]
end Go.Proofs.YtemdkfnenjpioaaGreatDoor
namespace Go.Proofs.YtemdkfnenjpioaaGreatDoor
open Go
attribute [-simp] Int.not_lt Int.not_le
theorem Aqk {c:Cn} {d fr:Int} :Ap (shX c d fr).1≤20000:=by
 unfold shX
 split
 · decide
 · exact Sd
mutual
theorem Afe (l:List Cn): ∀(c:Cn) (d:Int),Ap (sb l c d).1≤20000 * Ap c
 | .mk o n s k ns cl,d=>by
   rw[sb]
   generalize (if opB o=true then d+1 else d)=ub
   have hs:=Aqc l cl ub
   split
   · split
     · simp only[Ap]; omega
     · split
       · rename_i x _
         have:=Aqk (c:=x) (d:=d) (fr:=0)
         simp only[Ap]; omega
       · simp only[Ap]; omega
   · split
     · have:Ap Az=1:=rfl
       simp only[Ap]; omega
     · simp only[Ap]; omega
theorem Aqc (l:List Cn): ∀(cl:List Cn) (d:Int),Bu (sbs l cl d).1≤20000 * Bu cl
 | [],_=>by simp[sbs,Bu]
 | x :: xs,d=>by
   rw[sbs]
   split
   · simp[Bu]
   · have h1:=Afe l x d
     have h2:=Aqc l xs d
     simp only[Bu]; omega
end
attribute [local simp] Ar aev Ax A7 start AV.cells AV.undef Bc Be Bh Bl Bj AV.isCell Bf A1 Bi
attribute [local simp] fin A9 A8 Bb AV.strip Ay A5 AV.inScope Am A0 As
attribute [local simp] Ca Cg
theorem Aiq (l:List Cn) (hz: ∀x ∈ l,Ap x≤1000000000000) (c:Cn) (d:Int) (h0:0≤d) (hd:d+Cp c≤10000000):
 Ab Tryz.prog N8 [Aa c,.sl .none (l.map Ai),.int .i64 d] [] (cnE (sb l c d)) []:=
 As8 l hz c d h0 hd fun x hx d h0 hd=>Aiq l hz x d h0 hd
termination_by SizeOf.sizeOf c
decreasing_by exact Cn.lt_l ‹_›
theorem Ay8 (c:Cn) (hc:Ap c≤1000000000000):Ab Tryz.prog Tk [Aa c] [] (.bool !A6 c) []:=by
 refine Ab.go mixed Av7 (by simp) fun hfit Q hQ=>?_
 clear hfit
 simp -implicitDefEqProofs[Ahf,Aa]
 refine Ah (D5 c hc) (by simp) (by simp) (by simp[Ag,Aa,Ac,Al,Af,Kd.l,An,Ak]) ?_
 simp -implicitDefEqProofs 
 refine hQ _ _ _ ?_
 simp -implicitDefEqProofs 
theorem A1k (l:List Cn) (hz: ∀x ∈ l,Ap x≤1000000000000) (c:Cn) (d:Int) (A:List HB) (i:Nat) (hi:A[i]? =some (.var [.sl .none (l.map Ai)])) (hsc:As A.length A=true)
 (hv:A6 c=true) (h0:0≤d) (hd:d≤1000000):
 Ab Tryz.prog Wf [Aa c,.int .i64 d,.ptr i 0] A (cnE (sb l c d)) A:=by
 have hil:=(List.getElem?_eq_some_iff.1 hi).1
 have hi': ∀L:List HB,(A++L)[i]? =some (.var [.sl .none (l.map Ai)]):=fun L=>by rw[List.getElem?_append_left hil]; exact hi
 have hdep:Cp c≤400:=by simp only[A6,Bool.and_eq_true,decide_eq_true_eq] at hv;exact hv.2.1
 have hsh:=Aiq l hz c d h0 (by omega)
 generalize sb l c d=p at hsh ⊢
 obtain⟨r,e⟩:=p
 refine Ab.go mixed A0h (by simp) fun hfit Q hQ=>?_
 clear hfit
 simp -implicitDefEqProofs[Aq3,Aa,Ac c,hi']
 refine Ah hsh (by simp) (Co _ 0) (by simp[Aa,Ac c]) ?_
 simp -implicitDefEqProofs[cnE,Aa,Ac r]
 refine hQ _ _ _ ?_
 simp -implicitDefEqProofs[hsc,cnE,Aa,Ac r]
def suS (s:Sm) (l:List Cn):Sm × Int:=if Ct s=false∨l.all A6=false then (Es,1) else if 1000 < l.length then (Es,5) else He (rbS (fun c d=>sb l c d) s 0)
theorem A2m (s:Sm) (l:List Cn) (hc:C1 s) (hz: ∀x ∈ l,Ap x≤1000000000000):Ab Tryz.prog Xt [An s,.sl .none (l.map Ai)] [] (smE (suS s l)) []:=by
 have hany:Ab Tryz.prog Fk [.sl .none (l.map Ai),.fn (.func Tk) [] []] [] (.bool !l.all A6) []:=by
  have h:=Ir l (fun x=>!A6 x) Tk fun x hx=>Ay8 x (hz x hx)
  rw[Hg] at h
  exact h
 generalize hav:l.all A6=av at hany
 refine Ab.go mixed Ayc (by simp) fun hfit Q hQ=>?_
 clear hfit
 simp -implicitDefEqProofs[Aqx,An,Ak s]
 refine Ah (V4 s hc) (by simp) (by simp) (by simp[Ag,Aa,Ac,Al,Af,Kd.l,An,Ak]) ?_
 cases hf1:Ct s
 · have key:suS s l=(Es,1):=by rw[suS,if_pos (.inl hf1)]
   simp -implicitDefEqProofs 
   refine hQ _ _ _ ?_
   simp -implicitDefEqProofs[key,smE,An,Jw]
 simp -implicitDefEqProofs 
 refine Ah (hany) (by simp) (by simp) (by simp[Ag,Aa,Ac,Al,Af,Kd.l,An,Ak]) ?_
 cases av
 · have key:suS s l=(Es,1):=by rw[suS,if_pos (.inr hav)]
   simp -implicitDefEqProofs 
   refine hQ _ _ _ ?_
   simp -implicitDefEqProofs[key,smE,An,Jw]
 by_cases hl:1000 < l.length
 · have key:suS s l=(Es,5):=by rw[suS,if_neg (by rw[hf1,hav]; simp)]; simp[hl]
   have hl':(1000:Int) < (l.length:Int):=by omega
   simp -implicitDefEqProofs[hl,hl']
   refine hQ _ _ _ ?_
   simp -implicitDefEqProofs[key,smE,An,Jw]
 have key:suS s l=He (rbS (fun c d=>sb l c d) s 0):=by rw[suS,if_neg (by rw[hf1,hav]; simp)]; simp[hl]
 have hl': ¬(1000:Int) < (l.length:Int):=by omega
 have ht:=Wh hf1
 have hreb:=Ug Wf [.ptr 1 0] [.var (B6 s),.var [.sl .none (l.map Ai)],.var F6] (fun c k=>sb l c k) (fun b hb=>by
  match b,hb with
  | 0,_=>exact⟨_,rfl⟩
  | 1,_=>exact⟨_,rfl⟩
  | 2,_=>exact⟨_,rfl⟩) (fun n _=>by simp[As,Am,A0,AV.inScope,F6,Ak s]) (fun n hn=>by simp only[List.length_cons,List.length_nil] at hn;simp[Am,AV.inScope]; omega)
  (fun c k hv h0 h1=>A1k l hz c k _ 1 rfl (by simp[As,Am,A0,AV.inScope,F6,Ak s]) hv h0 h1) 400 s 0 ht (by omega) (by omega)
 have hcr:=Ad5 (fun c k=>sb l c k) s 0 400 ht (by omega) (by omega) (fun c k hv _ _=>by
  have:=Afe l c k
  have:=Fp hv
  show Ap (sb l c k).1≤_
  omega)
 have hfin:=Ade _ hcr
 clear ht hcr
 generalize rbS (fun c k=>sb l c k) s 0=p at key hreb hfin
 obtain⟨y,e⟩:=p
 simp -implicitDefEqProofs[hl,hl']
 refine Br (r:=smE (y,e)) (by simpa[An,Ak s,F6] using hreb) ?_
 clear hreb
 simp -implicitDefEqProofs[smE,An,Ak y]
 generalize He (y,e)=q at hfin key
 obtain⟨z,g⟩:=q
 refine Ah hfin (by simp) (Lr _ 0) (by simp[An,Ak y]) ?_
 simp -implicitDefEqProofs[smE,An,Ak z]
 refine hQ _ _ _ ?_
 simp -implicitDefEqProofs[key,smE,An,Ak z]
end Go.Proofs.YtemdkfnenjpioaaGreatDoor
