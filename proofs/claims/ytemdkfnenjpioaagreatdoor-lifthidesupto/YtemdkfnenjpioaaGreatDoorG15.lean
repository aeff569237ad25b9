/- Joined: K7 K15 K16 K17 K18 B1. -/
import Derived.Test.YtemdkfnenjpioaaGreatDoorG12
import Derived.Below
set_option linter.unusedSimpArgs false
set_option linter.unusedVariables false
set_option linter.unusedSectionVars false
set_option linter.all false
set_option maxHeartbeats 4000000
set_option maxRecDepth 10000
namespace Go.Proofs.YtemdkfnenjpioaaGreatDoor
open Go
attribute [local simp] Ar aev Ax A7 start AV.cells AV.undef Bc Be Bh Bj AV.isCell Bf
theorem A2d (c:Kd) (hrec: ∀x ∈ c.l,Ab Tryz.prog Mz [Ag x] [] (Ag x) []):Ab Tryz.prog Mz [Ag c] [] (Ag c) []:=by
 refine Ab.go mixed At3 (by simp) fun hfit Q hQ=>?_
 have hf:=Sk (k:=c) (by simpa[Bn,Ag,AV.fits] using hfit)
 have hln:c.l.length≤1073741824:=hf.1
 clear hfit hf
 simp -implicitDefEqProofs[Anx,Ag,Al c]
 refine B5 (AWp.loopI [2] (fun n f h G=>∃k tok,k+n=c.l.length∧f 9= .int .i64 k∧h 2=[.sl tok ((c.l.map Ao).take k)]∧owns 3 G tok ((c.l.map Ao).take k) 1) c.l.length (by simp) ⟨0,.nilT,by simp,rfl,by simp[Dx],E7 _ _ _⟩ ?_)
 rintro n f h G ⟨k,tok,hk,h9,h2,hown⟩
 refine AWp.run mixed fun Q2 hQ2=>?_
 simp -implicitDefEqProofs[AC.dsts,Au,At,Bo,h9,h2]
 by_cases hlt:k < c.l.length
 · have hrec:=hrec c.l[k] (List.getElem_mem _)
   simp -implicitDefEqProofs[hlt]
   refine C3 (by rfl) ?_
   simp -implicitDefEqProofs
   refine N5 (fun H=>hrec.lift (by simp[Ag,Am,AV.inScope]) (by simp[Ag,AV.inScope]) H) ?_
   simp -implicitDefEqProofs[Ag,A1]
   refine Pm (A:=[_,_,_]) (E5 hown) (by simp[A4]; omega) (Ud (Ek _ _ Zv)) (by simp) fun tok' G' hown' hG'=>?_
   simp -implicitDefEqProofs[Ba (n:=(k:Int)+1) (by omega) (by omega)]
   refine hQ2 _ _ _ (Cb (n - 1) (fun _=>[.sl tok' ((c.l.map Ao).take k++[Ao c.l[k]])]) rfl ?_ ?_ ?_)
   · omega
   · simp -implicitDefEqProofs[AC.dsts,Au,At,Aq]
   · have e:(c.l.map Ao).take (k+1)=(c.l.map Ao).take k++[Ao c.l[k]]:=by simp[List.take_add_one,hlt]
     refine⟨k+1,tok',by omega,by simp[Aq],by rw[e],?_⟩
     rw[e]; exact hown'
 · have hkl:(c.l.map Ao).take k=c.l.map Ao:=List.take_of_length_le (by simp;omega)
   simp -implicitDefEqProofs[hlt]
   refine hQ2 _ _ _ (Ce ?_)
   show KE _ 0 _ Q _ _
   simp -implicitDefEqProofs[hkl]
   refine hQ _ _ _ ?_
   simp -implicitDefEqProofs[fin,A9,A8,Bb,AV.strip,Ay,AV.inScope,Am,As,Ag,Al c]
theorem Acl (c:Kd):Ab Tryz.prog Mz [Ag c] [] (Ag c) []:=A2d c fun x _=>Acl x
termination_by SizeOf.sizeOf c
decreasing_by exact Kd.lt_l ‹_›
end Go.Proofs.YtemdkfnenjpioaaGreatDoor
namespace Go.Proofs.YtemdkfnenjpioaaGreatDoor
open Go
attribute [-simp] Int.not_lt Int.not_le
theorem Ca {α :Type} [BEq α] [LawfulBEq α] [DecidableEq α] (a b: α):(a == b)=decide (a=b):=by rw[Bool.eq_iff_iff]; simp
theorem Cg {α :Type} [BEq α] [LawfulBEq α] [DecidableEq α] (a b: α):(a != b)= !decide (a=b):=by rw[bne,Ca]
attribute [local simp] Ar aev Ax A7 start AV.cells AV.undef Bc Be Bh Bl Bj AV.isCell Bf A1 Bi
attribute [local simp] fin A9 A8 Bb AV.strip Ay A5 AV.inScope Am A0 As
attribute [local simp] Ca Cg
def opB (op:Int):Bool:=op == 9 || op == 10 || op == 11 || op == 13
def opL (op:Int):Bool:=op == 7 || op == 8
def D2 (op:Int):Bool:=op == 1 || op == 2 || op == 3
def opM (op:Int):Bool:=op == 5 || op == 6
theorem R4 (c:Cn):Ab Tryz.prog Oi [Aa c] [] (.bool (opB c.op)) []:=by
 refine Ab.go mixed Azn (by simp) fun hfit Q hQ=>?_
 clear hfit
 simp -implicitDefEqProofs[Akw,Aa,Ac c]
 repeat' (first | (refine Cl (fun hb=>?_) (fun hb=>?_)<;>(try simp only[Bool.not_eq_true',Bool.not_eq_true,Bool.not_eq_false,Bool.not_eq_false',Bool.not_true,Bool.not_false,decide_eq_true_eq,decide_eq_false_iff_not,decide_not,Decidable.not_not] at hb)<;>simp -implicitDefEqProofs[hb,opB]) | (refine Dp (fun hb=>?_) (fun hb=>?_)<;>(try simp only[Bool.not_eq_true',Bool.not_eq_true,Bool.not_eq_false,Bool.not_eq_false',Bool.not_true,Bool.not_false,decide_eq_true_eq,decide_eq_false_iff_not,decide_not,Decidable.not_not] at hb)<;>simp -implicitDefEqProofs[hb,opB]))
 all_goals (refine hQ _ _ _ ?_;simp -implicitDefEqProofs[*,opB])
theorem Ana (c:Cn):Ab Tryz.prog V1 [Aa c] [] (.bool (opL c.op)) []:=by
 refine Ab.go mixed Aux (by simp) fun hfit Q hQ=>?_
 clear hfit
 simp -implicitDefEqProofs[Ai1,Aa,Ac c]
 repeat' (first | (refine Cl (fun hb=>?_) (fun hb=>?_)<;>(try simp only[Bool.not_eq_true',Bool.not_eq_true,Bool.not_eq_false,Bool.not_eq_false',Bool.not_true,Bool.not_false,decide_eq_true_eq,decide_eq_false_iff_not,decide_not,Decidable.not_not] at hb)<;>simp -implicitDefEqProofs[hb,opL]) | (refine Dp (fun hb=>?_) (fun hb=>?_)<;>(try simp only[Bool.not_eq_true',Bool.not_eq_true,Bool.not_eq_false,Bool.not_eq_false',Bool.not_true,Bool.not_false,decide_eq_true_eq,decide_eq_false_iff_not,decide_not,Decidable.not_not] at hb)<;>simp -implicitDefEqProofs[hb,opL]))
 all_goals (refine hQ _ _ _ ?_;simp -implicitDefEqProofs[*,opL])
theorem Xf (op:Int):Ab Tryz.prog Lb [.int .i64 op] [] (.bool (D2 op)) []:=by
 refine Ab.go mixed Aqy (by simp) fun hfit Q hQ=>?_
 clear hfit
 simp -implicitDefEqProofs[Aci]
 repeat' (first | (refine Cl (fun hb=>?_) (fun hb=>?_)<;>(try simp only[Bool.not_eq_true',Bool.not_eq_true,Bool.not_eq_false,Bool.not_eq_false',Bool.not_true,Bool.not_false,decide_eq_true_eq,decide_eq_false_iff_not,decide_not,Decidable.not_not] at hb)<;>simp -implicitDefEqProofs[hb,D2]) | (refine Dp (fun hb=>?_) (fun hb=>?_)<;>(try simp only[Bool.not_eq_true',Bool.not_eq_true,Bool.not_eq_false,Bool.not_eq_false',Bool.not_true,Bool.not_false,decide_eq_true_eq,decide_eq_false_iff_not,decide_not,Decidable.not_not] at hb)<;>simp -implicitDefEqProofs[hb,D2]))
 all_goals (refine hQ _ _ _ ?_;simp -implicitDefEqProofs[*,D2])
def Sy (c:Cn):Int:=if c.op < 1∨13 < c.op then -1 else if opL c.op then c.names.length else if opB c.op then 1 else if c.op == 6 || c.op == 12 then 2 else 0
theorem Aui (c:Cn):Ab Tryz.prog Aeh [Aa c] [] (.int .i64 (Sy c)) []:=by
 refine Ab.go mixed Avl (by simp) fun hfit Q hQ=>?_
 clear hfit
 simp -implicitDefEqProofs[Ahx,Aa,Ac c]
 repeat' (first | (refine Cl (fun hb=>?_) (fun hb=>?_)<;>(try simp only[Bool.not_eq_true',Bool.not_eq_true,Bool.not_eq_false,Bool.not_eq_false',Bool.not_true,Bool.not_false,decide_eq_true_eq,decide_eq_false_iff_not,decide_not,Decidable.not_not] at hb)<;>simp -implicitDefEqProofs[hb]) | (refine Dp (fun hb=>?_) (fun hb=>?_)<;>(try simp only[Bool.not_eq_true',Bool.not_eq_true,Bool.not_eq_false,Bool.not_eq_false',Bool.not_true,Bool.not_false,decide_eq_true_eq,decide_eq_false_iff_not,decide_not,Decidable.not_not] at hb)<;>simp -implicitDefEqProofs[hb]) | (refine Ah (Ana c) (by simp) (by simp) (by simp[Ag,Aa,Ac,Al,Af,Kd.l, *]) ?_;simp -implicitDefEqProofs ) | (refine Ah (R4 c) (by simp) (by simp) (by simp[Ag,Aa,Ac,Al,Af,Kd.l, *]) ?_;simp -implicitDefEqProofs ))
 all_goals (refine hQ _ _ _ ?_;simp -implicitDefEqProofs[Sy,Af, *])
 all_goals simp[opL,opB]
def Ab2 (op:Int):Int:=if op == 6 || op == 12 then 2 else if opL op then -1 else if opB op then 1 else 0
def Ef (n:Int):Cn:=.mk 1 n [] (.mk []) [] []
def Eo (op:Int) (a b:Cn):Cn:=.mk op 0 [] (.mk []) [] [a,b]
def Hd (op:Int) (k:Kd) (c:Cn):Cn:=.mk op 0 [] k [] [c]
def Wx:Cn:=.mk 7 0 [] (.mk []) [] []
def Az:Cn:=.mk 0 0 [] (.mk []) [] []
def Lo (c:Cn):Cn:=.mk c.op c.n c.s c.k [] []
theorem Ga (op n:Int) (s:List UInt8) (k:Kd) (names:List (List UInt8)) (l:List Cn):Ai (.mk op n s k names l)=[.int .i64 op,.int .i64 n,.str s,.sl .none (k.l.map Ao),.sl .none (Af names),.sl .none (l.map Ai)]:=Ac _
theorem J3:Af []=[]:=rfl
theorem Kd.l_mk (l:List Kd):(Kd.mk l).l=l:=rfl
theorem Afg (n:Int):Ab Tryz.prog U1 [.int .i64 n] [] (Aa (Ef n)) []:=by
 refine Ab.go mixed Av3 (by simp) fun hfit Q hQ=>?_
 clear hfit
 simp -implicitDefEqProofs[Aqd]
 refine hQ _ _ _ ?_
 simp -implicitDefEqProofs[Aa,Ef,Ga,J3,Kd.l_mk]
theorem Aro:Ab Tryz.prog Ada [] [] (Aa Wx) []:=by
 refine Ab.go mixed A0o (by simp) fun hfit Q hQ=>?_
 clear hfit
 simp -implicitDefEqProofs[Ais]
 refine hQ _ _ _ ?_
 simp -implicitDefEqProofs[Aa,Wx,Ga,J3,Kd.l_mk]
theorem Aa2 (a b:Cn):Ab Tryz.prog S5 [Aa a,Aa b] [] (Aa (Eo 6 a b)) []:=by
 refine Ab.go mixed A2s (by simp) fun hfit Q hQ=>?_
 clear hfit
 simp -implicitDefEqProofs[Aoa,Aa]
 refine hQ _ _ _ ?_
 simp -implicitDefEqProofs[Aa,Eo,Ga,J3,Kd.l_mk]
theorem Wb (c:Cn):Ab Tryz.prog V8 [Aa c] [] (Aa (Lo c)) []:=by
 refine Ab.go mixed Auq (by simp) fun hfit Q hQ=>?_
 clear hfit
 simp -implicitDefEqProofs[Aiz,Aa,Ac c]
 refine C3 (by rfl) ?_
 simp -implicitDefEqProofs 
 refine Bp (Acl c.k) (by simp) (by simp) (by simp[Ag,Aa,Ac,Al,Af,Kd.l]) ?_
 simp -implicitDefEqProofs[Ag,Al c.k]
 refine hQ _ _ _ ?_
 simp -implicitDefEqProofs[Aa,Lo,Ga,J3,Ag,Al c.k]
end Go.Proofs.YtemdkfnenjpioaaGreatDoor
namespace Go.Proofs.YtemdkfnenjpioaaGreatDoor
open Go
attribute [local simp] Ar aev Ax A7 start AV.cells AV.undef Bc Be Bh Bl Bj AV.isCell Bf A1 Bi
attribute [local simp] fin A9 A8 Bb AV.strip Ay A5 AV.inScope Am A0 As
attribute [local simp] Ca Cg
attribute [-simp] Int.not_lt Int.not_le
theorem Ab.nilOr {P:Program} {f:FuncId} {H H':List HB} {res:AV} {A B:List AV} (h1:Ab P f (A++ .sl .nilT [] :: B) H res H') (h2:Ab P f (A++ .sl .nn [] :: B) H res H'):Ab P f (A++ .sl .none [] :: B) H res H':=by
 refine⟨h1.1,fun F g w vs hG hs hr=>?_⟩
 have split: ∀(A:List AV) (vs:List Value),RL F g w (A++ .sl .none [] :: B) vs→RL F g w (A++ .sl .nilT [] :: B) vs∨RL F g w (A++ .sl .nn [] :: B) vs:=by
  intro A
  induction A with
  | nil=>
    intro vs h
    simp only[List.nil_append,RL] at h ⊢
    obtain⟨v,r,rfl,hv,hr⟩:=h
    simp only[R] at hv
    obtain⟨h0,⟨_,rfl,_⟩ | ⟨B',off,sp,cap,k,rfl,hc,hk,he,ht⟩⟩:=hv
    · exact .inl ⟨_,r,rfl,by unfold R;exact⟨h0,.inl ⟨rfl,rfl,by simp,by simp⟩⟩,hr⟩
    · exact .inr ⟨_,r,rfl,by unfold R;exact⟨h0,.inr ⟨B',off,sp,cap,k,rfl,hc,⟨hk.1,.inl rfl⟩,he,trivial⟩⟩,hr⟩
  | cons a A ih=>
    intro vs h
    simp only[List.cons_append,RL] at h ⊢
    obtain⟨v,r,rfl,hv,hr⟩:=h
    rcases ih r hr with h | h
    · exact .inl ⟨v,r,rfl,hv,h⟩
    · exact .inr ⟨v,r,rfl,hv,h⟩
 rcases split A vs hr with h | h
 · exact h1.2 F g w vs hG hs h
 · exact h2.2 F g w vs hG hs h
theorem Nf (l:List (List UInt8)):Ab Tryz.prog Iq [.sl .none (Af l)] [] (.sl .none (Af l)) []:=by
 cases l with
 | nil=>
   refine Ab.nilOr (A:=[]) (B:=[]) ?_ ?_
   · refine Ab.go mixed Yc (by simp) fun hfit Q hQ=>?_
     clear hfit
     simp -implicitDefEqProofs[Tp,Ff]
     refine hQ _ _ _ ?_
     simp -implicitDefEqProofs[Af]
   · refine Ab.go mixed Yc (by simp) fun hfit Q hQ=>?_
     clear hfit
     simp -implicitDefEqProofs[Tp,Ff,C7,A4,C0,Ha]
     refine hQ _ _ _ ?_
     simp -implicitDefEqProofs[Af]
 | cons s l=>
   refine Ab.go mixed Yc (by simp) fun hfit Q hQ=>?_
   have hln:l.length+1≤A4:=by simpa[Bn,AV.fits,Af] using hfit.1.1
   clear hfit
   simp -implicitDefEqProofs[Tp,Ff,Af,C7,hln,C0,Ha]
   refine hQ _ _ _ ?_
   simp -implicitDefEqProofs[Af]
theorem Axv (l:List Cn) (p:Cn→Bool) (n:Nat) (hp: ∀x ∈ l,Ab Tryz.prog n [Aa x] [] (.bool (p x)) []):
 Ab Tryz.prog Qi [.sl .none (l.map Ai),.fn (.func n) [] []] [] (.int .i64 (Cz p l 0)) []:=by
 refine Ab.go mixed Acb (by simp) fun hfit Q hQ=>?_
 have hln:l.length≤1073741824:=by simpa[Bn,AV.fits,A4] using hfit.1.1
 clear hfit
 simp -implicitDefEqProofs[Vl]
 refine B5 (AWp.loopI [] (fun n f h G=>∃k:Nat,k+n=l.length∧f 8= .int .i64 k∧Cz p (l.drop k) k=Cz p l 0) (l.length) (by simp) ⟨0,by simp,rfl,by simp⟩ ?_)
 rintro n f h G ⟨k,hk,h8,hs⟩
 refine AWp.run mixed fun Q2 hQ2=>?_
 simp -implicitDefEqProofs[AC.dsts,Au,At,Bo,h8]
 by_cases hlt:k < l.length
 · have hd:=List.drop_eq_getElem_cons hlt
   simp -implicitDefEqProofs[hlt]
   refine Ah (hp l[k] (List.getElem_mem _)) (by simp) (by simp) (by simp[Ag,Aa,Ac,Al,Af,Kd.l]) ?_
   simp -implicitDefEqProofs 
   refine Cl (fun hb=>?_) (fun hb=>?_)
   · have e:Cz p l 0=k:=by rw[← hs,hd]; simp[Cz,hb]
     simp -implicitDefEqProofs 
     refine hQ2 _ _ _ (Dg ?_)
     show KR _ _ Q _ _
     simp -implicitDefEqProofs 
     refine hQ _ _ _ ?_
     simp -implicitDefEqProofs[e]
   · simp -implicitDefEqProofs[Ba (n:=(k:Int)+1) (by omega) (by omega)]
     refine hQ2 _ _ _ (Cb (n - 1) (h) rfl (by omega) (by simp -implicitDefEqProofs[AC.dsts,Au,At,Aq]) ?_)
     refine⟨k+1,by omega,by simp[Aq],?_⟩
     rw[← hs,hd]; simp[Cz,hb]
 · have e:Cz p l 0= -1:=by rw[← hs,List.drop_eq_nil_of_le (by omega)]; simp[Cz]
   simp -implicitDefEqProofs[hlt]
   refine hQ2 _ _ _ (Ce ?_)
   show KE _ 0 _ Q _ _
   simp -implicitDefEqProofs 
   refine hQ _ _ _ ?_
   simp -implicitDefEqProofs[e]
theorem Ir (l:List Cn) (p:Cn→Bool) (n:Nat) (hp: ∀x ∈ l,Ab Tryz.prog n [Aa x] [] (.bool (p x)) []):
 Ab Tryz.prog Fk [.sl .none (l.map Ai),.fn (.func n) [] []] [] (.bool (l.any p)) []:=by
 refine Ab.go mixed Abv (by simp) fun hfit Q hQ=>?_
 clear hfit
 simp -implicitDefEqProofs[W8]
 refine Ah (Axv l p n hp) (by simp) (by simp) (by simp[Ag,Aa,Ac,Al,Af,Kd.l]) ?_
 simp -implicitDefEqProofs 
 refine hQ _ _ _ ?_
 simp -implicitDefEqProofs[So]
theorem Aq7 (l:List (List UInt8)) (p:List UInt8→Bool) (n:Nat) (hp: ∀x ∈ l,Ab Tryz.prog n [.str x] [] (.bool (p x)) []):
 Ab Tryz.prog Q4 [.sl .none (Af l),.fn (.func n) [] []] [] (.int .i64 (Cz p l 0)) []:=by
 refine Ab.go mixed Aob (by simp) fun hfit Q hQ=>?_
 have hln:l.length≤1073741824:=by simpa[Bn,AV.fits,A4,Af] using hfit.1.1
 clear hfit
 simp -implicitDefEqProofs[Zz,Af]
 refine B5 (AWp.loopI [] (fun n f h G=>∃k:Nat,k+n=l.length∧f 8= .int .i64 k∧Cz p (l.drop k) k=Cz p l 0) (l.length) (by simp) ⟨0,by simp,rfl,by simp⟩ ?_)
 rintro n f h G ⟨k,hk,h8,hs⟩
 refine AWp.run mixed fun Q2 hQ2=>?_
 simp -implicitDefEqProofs[AC.dsts,Au,At,Bo,h8]
 by_cases hlt:k < l.length
 · have hd:=List.drop_eq_getElem_cons hlt
   simp -implicitDefEqProofs[hlt]
   refine Ah (hp l[k] (List.getElem_mem _)) (by simp) (by simp) (by simp[Ag,Aa,Ac,Al,Af,Kd.l]) ?_
   simp -implicitDefEqProofs 
   refine Cl (fun hb=>?_) (fun hb=>?_)
   · have e:Cz p l 0=k:=by rw[← hs,hd]; simp[Cz,hb]
     simp -implicitDefEqProofs 
     refine hQ2 _ _ _ (Dg ?_)
     show KR _ _ Q _ _
     simp -implicitDefEqProofs 
     refine hQ _ _ _ ?_
     simp -implicitDefEqProofs[e]
   · simp -implicitDefEqProofs[Ba (n:=(k:Int)+1) (by omega) (by omega)]
     refine hQ2 _ _ _ (Cb (n - 1) (h) rfl (by omega) (by simp -implicitDefEqProofs[AC.dsts,Au,At,Aq]) ?_)
     refine⟨k+1,by omega,by simp[Aq],?_⟩
     rw[← hs,hd]; simp[Cz,hb]
 · have e:Cz p l 0= -1:=by rw[← hs,List.drop_eq_nil_of_le (by omega)]; simp[Cz]
   simp -implicitDefEqProofs[hlt]
   refine hQ2 _ _ _ (Ce ?_)
   show KE _ 0 _ Q _ _
   simp -implicitDefEqProofs 
   refine hQ _ _ _ ?_
   simp -implicitDefEqProofs[e]
theorem Tq (l:List (List UInt8)) (p:List UInt8→Bool) (n:Nat) (hp: ∀x ∈ l,Ab Tryz.prog n [.str x] [] (.bool (p x)) []):
 Ab Tryz.prog Jk [.sl .none (Af l),.fn (.func n) [] []] [] (.bool (l.any p)) []:=by
 refine Ab.go mixed Ao6 (by simp) fun hfit Q hQ=>?_
 clear hfit
 simp -implicitDefEqProofs[Aap]
 refine Ah (Aq7 l p n hp) (by simp) (by simp) (by simp[Ag,Aa,Ac,Al,Af,Kd.l]) ?_
 simp -implicitDefEqProofs 
 refine hQ _ _ _ ?_
 simp -implicitDefEqProofs[So]
mutual
def C5:Cn→Cn→Bool
 | .mk o n s k ns l,.mk o' n' s' k' ns' l'=>o == o' && n == n' && s == s' && kEq k k' && ns == ns' && Kv l l'
def Kv:List Cn→List Cn→Bool
 | [],[]=>true
 | x :: xs,y :: ys=>C5 x y && Kv xs ys
 | _,_=>false
end
theorem Ag6: ∀(a b:List Cn),Kv a b=Bt C5 a b
 | [],[]=>by simp[Kv,Bt]
 | x :: xs,y :: ys=>by simp[Kv,Bt,Ag6 xs ys]
 | [],_ :: _=>by simp[Kv,Bt]
 | _ :: _,[]=>by simp[Kv,Bt]
theorem Ws (a b:Cn):C5 a b=(a.op == b.op && a.n == b.n && a.s == b.s && kEq a.k b.k && a.names == b.names && Bt C5 a.l b.l):=by
 cases a;cases b;simp[C5,Ag6,Cn.op,Cn.n,Cn.s,Cn.k,Cn.names,Cn.l]
theorem A2n (a b:List Cn) (p:Cn→Cn→Bool) (m:Nat) (hp: ∀x ∈ a,∀y,Ab Tryz.prog m [Aa x,Aa y] [] (.bool (p x y)) []):
 Ab Tryz.prog S4 [.sl .none (a.map Ai),.sl .none (b.map Ai),.fn (.func m) [] []] [] (.bool (Bt p a b)) []:=by
 refine Ab.go mixed Agq (by simp) fun hfit Q hQ=>?_
 have hln:a.length≤1073741824:=by simpa[Bn,AV.fits,A4] using hfit.1.1
 clear hfit
 simp -implicitDefEqProofs[Acc]
 refine Cl (fun hb=>?_) (fun hb=>?_)
 · have e:Bt p a b=false:=Jt _ _ _ (by simp at hb;omega)
   simp -implicitDefEqProofs 
   refine hQ _ _ _ ?_
   simp -implicitDefEqProofs[e]
 have hab:a.length=b.length:=by simp at hb;omega
 simp -implicitDefEqProofs 
 refine B5 (AWp.loopI [] (fun n f h G=>∃k:Nat,k+n=a.length∧f 17= .int .i64 k∧Bt p (a.drop k) (b.drop k)=Bt p a b) (a.length) (by simp) ⟨0,by simp,rfl,by simp⟩ ?_)
 rintro n f h G ⟨k,hk,h17,hs⟩
 refine AWp.run mixed fun Q2 hQ2=>?_
 simp -implicitDefEqProofs[AC.dsts,Au,At,Bo,h17]
 by_cases hlt:k < a.length
 · have hlt2:k < b.length:=by omega
   have hd:=List.drop_eq_getElem_cons hlt
   have hd2:=List.drop_eq_getElem_cons hlt2
   simp -implicitDefEqProofs[hlt,hlt2]
   refine Ah (hp a[k] (List.getElem_mem _) b[k]) (by simp) (by simp) (by simp[Ag,Aa,Ac,Al,Af,Kd.l]) ?_
   simp -implicitDefEqProofs 
   cases hv:p a[k] b[k]
   · have e:Bt p a b=false:=by rw[← hs,hd,hd2]; simp[Bt,hv]
     simp -implicitDefEqProofs 
     refine hQ2 _ _ _ (Dg ?_)
     show KR _ _ Q _ _
     simp -implicitDefEqProofs 
     refine hQ _ _ _ ?_
     simp -implicitDefEqProofs[e]
   · simp -implicitDefEqProofs[Ba (n:=(k:Int)+1) (by omega) (by omega)]
     refine hQ2 _ _ _ (Cb (n - 1) (h) rfl (by omega) (by simp -implicitDefEqProofs[AC.dsts,Au,At,Aq]) ?_)
     refine⟨k+1,by omega,by simp[Aq],?_⟩
     rw[← hs,hd,hd2]; simp[Bt,hv]
 · have e:Bt p a b=true:=by rw[← hs,List.drop_eq_nil_of_le (by omega),List.drop_eq_nil_of_le (by omega)]; simp[Bt]
   simp -implicitDefEqProofs[hlt]
   refine hQ2 _ _ _ (Ce ?_)
   show KE _ 0 _ Q _ _
   simp -implicitDefEqProofs 
   refine hQ _ _ _ ?_
   simp -implicitDefEqProofs[e]
theorem Arh (a b:Cn) (hrec: ∀x ∈ a.l,∀y,Ab Tryz.prog Ki [Aa x,Aa y] [] (.bool (C5 x y)) []):
 Ab Tryz.prog Ki [Aa a,Aa b] [] (.bool (C5 a b)) []:=by
 have key:=Ws a b
 refine Ab.go mixed Akq (by simp) fun hfit Q hQ=>?_
 clear hfit
 simp -implicitDefEqProofs[Abb,Aa,Ac a,Ac b]
 repeat' (first | (refine Cl (fun hb=>?_) (fun hb=>?_)<;>(try simp only[Bool.not_eq_true',Bool.not_eq_true,Bool.not_eq_false,Bool.not_eq_false',Bool.not_true,Bool.not_false,decide_eq_true_eq,decide_eq_false_iff_not,decide_not,Decidable.not_not] at hb)<;>simp -implicitDefEqProofs[hb,key]) | (refine Dp (fun hb=>?_) (fun hb=>?_)<;>(try simp only[Bool.not_eq_true',Bool.not_eq_true,Bool.not_eq_false,Bool.not_eq_false',Bool.not_true,Bool.not_false,decide_eq_true_eq,decide_eq_false_iff_not,decide_not,Decidable.not_not] at hb)<;>simp -implicitDefEqProofs[hb,key]) | (refine Ah (Alf a.k b.k) (by simp) (by simp) (by simp[Ag,Aa,Ac,Al,Af,Kd.l, *]) ?_;simp -implicitDefEqProofs[key]) | (refine Ah (As7 a.names b.names) (by simp) (by simp) (by simp[Ag,Aa,Ac,Al,Af,Kd.l, *]) ?_;simp -implicitDefEqProofs[key]) | (refine Ah (A2n a.l b.l C5 _ hrec) (by simp) (by simp) (by simp[Ag,Aa,Ac,Al,Af,Kd.l, *]) ?_;simp -implicitDefEqProofs[key]))
 all_goals (refine hQ _ _ _ ?_;simp -implicitDefEqProofs[*,key])
theorem Y8 (a b:Cn):Ab Tryz.prog Ki [Aa a,Aa b] [] (.bool (C5 a b)) []:=
 Arh a b fun x _ y=>Y8 x y
termination_by SizeOf.sizeOf a
decreasing_by exact Cn.lt_l ‹_›
theorem Azt (a b:Cn) (hrec: ∀x ∈ a.l,∀y,Ab Tryz.prog Jd [Aa x,Aa y] [] (.bool (C5 x y)) []):
 Ab Tryz.prog Jd [Aa a,Aa b] [] (.bool (C5 a b)) []:=by
 have key:=Ws a b
 refine Ab.go mixed Aur (by simp) fun hfit Q hQ=>?_
 have hf:=H8 (c:=a) (by simpa[Bn,Aa,AV.fits] using hfit.1)
 have hln:a.l.length≤1073741824:=hf.2.2.2.2.2.2.2.1
 clear hfit hf
 simp -implicitDefEqProofs[Ak9,Aa,Ac a,Ac b]
 by_cases hab:a.l.length=b.l.length
 · repeat' (first | (refine Cl (fun hb=>?_) (fun hb=>?_)<;>(try simp only[Bool.not_eq_true',Bool.not_eq_true,Bool.not_eq_false,Bool.not_eq_false',Bool.not_true,Bool.not_false,decide_eq_true_eq,decide_eq_false_iff_not,decide_not,Decidable.not_not] at hb)<;>simp -implicitDefEqProofs[hb,hab]) | (refine Dp (fun hb=>?_) (fun hb=>?_)<;>(try simp only[Bool.not_eq_true',Bool.not_eq_true,Bool.not_eq_false,Bool.not_eq_false',Bool.not_true,Bool.not_false,decide_eq_true_eq,decide_eq_false_iff_not,decide_not,Decidable.not_not] at hb)<;>simp -implicitDefEqProofs[hb,hab]) | (refine Ah (Ql a.k b.k) (by simp) (by simp) (by simp[Ag,Aa,Ac,Al,Af,Kd.l, *]) ?_;simp -implicitDefEqProofs[hab]) | (refine Ah (Wk a.names b.names) (by simp) (by simp) (by simp[Ag,Aa,Ac,Al,Af,Kd.l, *]) ?_;simp -implicitDefEqProofs[hab]))
   all_goals try (refine hQ _ _ _ ?_;simp -implicitDefEqProofs[key, *]; done)
   have key2:C5 a b=Bt C5 a.l b.l:=by rw[key]; simp[*]
   refine B5 (AWp.loopI [] (fun n f h G=>∃k:Nat,k+n=b.l.length∧f 5= .int .i64 k∧Bt C5 (a.l.drop k) (b.l.drop k)=C5 a b) (b.l.length) (by simp) ⟨0,by simp,rfl,by simp[key2]⟩ ?_)
   rintro n f h G ⟨k,hk,h5,hs⟩
   refine AWp.run mixed fun Q2 hQ2=>?_
   simp -implicitDefEqProofs[AC.dsts,Au,At,Bo,h5,hab]
   by_cases hlt:k < b.l.length
   · have hlt2:k < a.l.length:=by omega
     have hd:=List.drop_eq_getElem_cons hlt
     have hd2:=List.drop_eq_getElem_cons hlt2
     simp -implicitDefEqProofs[hlt]
     refine C3 (by rfl) ?_
     simp -implicitDefEqProofs[hlt,hlt2]
     refine Bp (hrec a.l[k] (List.getElem_mem _) b.l[k]) (by simp) (by simp) (by simp[Ag,Aa,Ac,Al,Af,Kd.l]) ?_
     simp -implicitDefEqProofs 
     cases hv:C5 a.l[k] b.l[k]
     · have e:C5 a b=false:=by rw[← hs,hd,hd2]; simp[Bt,hv]
       simp -implicitDefEqProofs 
       refine hQ2 _ _ _ (Dg ?_)
       show KR _ _ Q _ _
       simp -implicitDefEqProofs 
       refine hQ _ _ _ ?_
       simp -implicitDefEqProofs[e]
     · simp -implicitDefEqProofs[Ba (n:=(k:Int)+1) (by omega) (by omega)]
       refine hQ2 _ _ _ (Cb (n - 1) (h) rfl (by omega) (by simp -implicitDefEqProofs[AC.dsts,Au,At,Aq]) ?_)
       refine⟨k+1,by omega,by simp[Aq],?_⟩
       rw[← hs,hd,hd2]; simp[Bt,hv]
   · have e:C5 a b=true:=by rw[← hs,List.drop_eq_nil_of_le (by omega),List.drop_eq_nil_of_le (by omega)]; simp[Bt]
     simp -implicitDefEqProofs[hlt]
     refine hQ2 _ _ _ (Ce ?_)
     show KE _ 0 _ Q _ _
     simp -implicitDefEqProofs 
     refine hQ _ _ _ ?_
     simp -implicitDefEqProofs[e]
 · have e:C5 a b=false:=by rw[key,Jt _ _ _ hab]; simp
   repeat' (first | (refine Cl (fun hb=>?_) (fun hb=>?_)<;>(try simp only[Bool.not_eq_true',Bool.not_eq_true,Bool.not_eq_false,Bool.not_eq_false',Bool.not_true,Bool.not_false,decide_eq_true_eq,decide_eq_false_iff_not,decide_not,Decidable.not_not] at hb)<;>simp -implicitDefEqProofs[hb]) | (refine Dp (fun hb=>?_) (fun hb=>?_)<;>(try simp only[Bool.not_eq_true',Bool.not_eq_true,Bool.not_eq_false,Bool.not_eq_false',Bool.not_true,Bool.not_false,decide_eq_true_eq,decide_eq_false_iff_not,decide_not,Decidable.not_not] at hb)<;>simp -implicitDefEqProofs[hb]) | (refine Ah (Ql a.k b.k) (by simp) (by simp) (by simp[Ag,Aa,Ac,Al,Af,Kd.l, *]) ?_;simp -implicitDefEqProofs ) | (refine Ah (Wk a.names b.names) (by simp) (by simp) (by simp[Ag,Aa,Ac,Al,Af,Kd.l, *]) ?_;simp -implicitDefEqProofs ))
   all_goals first | (refine hQ _ _ _ ?_;simp -implicitDefEqProofs[e]; done) | (exfalso;omega)
theorem Np (a b:Cn):Ab Tryz.prog Jd [Aa a,Aa b] [] (.bool (C5 a b)) []:=
 Azt a b fun x _ y=>Np x y
termination_by SizeOf.sizeOf a
decreasing_by exact Cn.lt_l ‹_›
theorem Cu:Ai Az=[.int .i64 0,.int .i64 0,.str [],   .sl .none [],.sl .none [],.sl .none []]:=by simp[Az,Ga,Kd.l_mk,J3]
end Go.Proofs.YtemdkfnenjpioaaGreatDoor
namespace Go.Proofs.YtemdkfnenjpioaaGreatDoor
open Go
attribute [local simp] Ar aev Ax A7 start AV.cells AV.undef Bc Be Bh Bl Bj AV.isCell Bf A1 Bi
attribute [local simp] fin A9 A8 Bb AV.strip Ay A5 AV.inScope Am A0 As
attribute [local simp] Ca Cg
attribute [-simp] Int.not_lt Int.not_le
mutual
def Ap:Cn→Nat
 | .mk _ _ _ _ _ l=>1+Bu l
def Bu:List Cn→Nat
 | []=>0
 | c :: cs=>Ap c+Bu cs
end
mutual
def Cp:Cn→Nat
 | .mk _ _ _ _ _ l=>Eg l+1
def Eg:List Cn→Nat
 | []=>0
 | c :: cs=>max (Cp c) (Eg cs)
end
theorem Aqm (l:List Cn) (k:Nat) (h:k < l.length):Bu (l.take (k+1))=Bu (l.take k)+Ap l[k]:=by
 induction l generalizing k with
 | nil=>simp at h
 | cons c l ih=>
   cases k with
   | zero=>simp[Bu]
   | succ k=>simp[Bu,ih k (by simpa using h)]; omega
theorem An7 (l:List Cn) (k:Nat):Bu (l.take k)≤Bu l:=by
 induction l generalizing k with
 | nil=>simp
 | cons c l ih=>cases k with
   | zero=>simp[Bu]
   | succ k=>simp[Bu]; exact ih k
theorem Gp (c:Cn):Ap c=1+Bu c.l:=by cases c;simp[Ap,Cn.l]
theorem K9 (c:Cn):Cp c=Eg c.l+1:=by cases c;simp[Cp,Cn.l]
theorem Px {l:List Cn} {x:Cn} (h:x ∈ l):Ap x≤Bu l:=by
 induction l with
 | nil=>cases h
 | cons c l ih=>
   rcases List.mem_cons.1 h with rfl | h
   · simp[Bu]
   · have:=ih h;simp[Bu]; omega
theorem S7 {l:List Cn} {x:Cn} (h:x ∈ l):Cp x≤Eg l:=by
 induction l with
 | nil=>cases h
 | cons c l ih=>
   rcases List.mem_cons.1 h with rfl | h
   · simp[Eg]; omega
   · have:=ih h;simp[Eg]; omega
mutual
theorem A0v: ∀c:Cn,Cp c≤Ap c
 | .mk _ _ _ _ _ l=>by have:=Wr l;simp only[Cp,Ap]; omega
theorem Wr: ∀l:List Cn,Eg l≤Bu l
 | []=>by simp[Eg,Bu]
 | c :: cs=>by have:=A0v c;have:=Wr cs;simp only[Eg,Bu]; omega
end
theorem Akz (l:List Cn) (k:Nat) (h:k < l.length):Eg (l.take (k+1))=max (Eg (l.take k)) (Cp l[k]):=by
 induction l generalizing k with
 | nil=>simp at h
 | cons c l ih=>
   cases k with
   | zero=>simp[Eg]
   | succ k=>simp[Eg,ih k (by simpa using h),Nat.max_assoc]
theorem Aw3 (c:Cn) (hc:Ap c≤1000000000000) (hrec: ∀x ∈ c.l,Ab Tryz.prog Hq [Aa x] [] (.int .i64 (Ap x)) []):Ab Tryz.prog Hq [Aa c] [] (.int .i64 (Ap c)) []:=by
 have hz:=Gp c
 refine Ab.go mixed Anv (by simp) fun hfit Q hQ=>?_
 have hf:=H8 (c:=c) (by simpa[Bn,Aa,AV.fits] using hfit)
 have hln:c.l.length≤1073741824:=hf.2.2.2.2.2.2.2.1
 clear hfit hf
 simp -implicitDefEqProofs[Zy,Aa,Ac c]
 refine B5 (AWp.loopI [] (fun n f h G=>∃k,k+n=c.l.length∧f 9= .int .i64 k∧f 3= .int .i64 (1+Bu (c.l.take k))) (c.l.length) (by simp) ⟨0,by simp,rfl,rfl⟩ ?_)
 rintro n f h G ⟨k,hk,h9,h3⟩
 refine AWp.run mixed fun Q2 hQ2=>?_
 simp -implicitDefEqProofs[AC.dsts,Au,At,Bo,h9,h3]
 by_cases hlt:k < c.l.length
 · have ht:=Aqm c.l k hlt
   have hle:=An7 c.l (k+1)
   simp -implicitDefEqProofs[hlt]
   refine Ah (hrec c.l[k] (List.getElem_mem _)) (by simp) (by simp) (by simp[Ag,Aa,Ac,Al,Af,Kd.l]) ?_
   simp -implicitDefEqProofs[Ba (n:=(k:Int)+1) (by omega) (by omega),Ba (n:=1+(Bu (c.l.take k):Int)+Ap c.l[k]) (by omega) (by omega)]
   refine hQ2 _ _ _ (Cb (n - 1) (h) rfl (by omega) (by simp -implicitDefEqProofs[AC.dsts,Au,At,Aq]) ?_)
   refine⟨k+1,by omega,by simp[Aq],?_⟩
   simp -implicitDefEqProofs[Aq,ht]; omega
 · have hkl:c.l.take k=c.l:=List.take_of_length_le (by omega)
   simp -implicitDefEqProofs[hlt]
   refine hQ2 _ _ _ (Ce ?_)
   show KE _ 0 _ Q _ _
   simp -implicitDefEqProofs 
   refine hQ _ _ _ ?_
   simp -implicitDefEqProofs[hkl,hz]
theorem Oo (c:Cn) (hc:Ap c≤1000000000000):Ab Tryz.prog Hq [Aa c] [] (.int .i64 (Ap c)) []:=
 Aw3 c hc fun x hx=>Oo x (by have:=Px hx;have:=Gp c;omega)
termination_by SizeOf.sizeOf c
decreasing_by exact Cn.lt_l ‹_›
theorem Avw (c:Cn) (hc:Ap c≤1000000000000) (hrec: ∀x ∈ c.l,Ab Tryz.prog Oj [Aa x] [] (.int .i64 (Cp x)) []):Ab Tryz.prog Oj [Aa c] [] (.int .i64 (Cp c)) []:=by
 have hz:=K9 c
 have hz2:=Wr c.l
 have hz3:=Gp c
 refine Ab.go mixed Ass (by simp) fun hfit Q hQ=>?_
 have hf:=H8 (c:=c) (by simpa[Bn,Aa,AV.fits] using hfit)
 have hln:c.l.length≤1073741824:=hf.2.2.2.2.2.2.2.1
 clear hfit hf
 simp -implicitDefEqProofs[Anr,Aa,Ac c]
 refine B5 (AWp.loopI [] (fun n f h G=>∃k,k+n=c.l.length∧f 9= .int .i64 k∧f 3= .int .i64 (Eg (c.l.take k))) (c.l.length) (by simp) ⟨0,by simp,rfl,rfl⟩ ?_)
 rintro n f h G ⟨k,hk,h9,h3⟩
 refine AWp.run mixed fun Q2 hQ2=>?_
 simp -implicitDefEqProofs[AC.dsts,Au,At,Bo,h9,h3]
 by_cases hlt:k < c.l.length
 · have ht:=Akz c.l k hlt
   simp -implicitDefEqProofs[hlt]
   refine Ah (hrec c.l[k] (List.getElem_mem _)) (by simp) (by simp) (by simp[Ag,Aa,Ac,Al,Af,Kd.l]) ?_
   simp -implicitDefEqProofs[Ba (n:=(k:Int)+1) (by omega) (by omega),maxA,Nj]
   refine hQ2 _ _ _ (Cb (n - 1) (h) rfl (by omega) (by simp -implicitDefEqProofs[AC.dsts,Au,At,Aq]) ?_)
   refine⟨k+1,by omega,by simp[Aq],?_⟩
   simp -implicitDefEqProofs[Aq,ht]; split<;>omega
 · have hkl:c.l.take k=c.l:=List.take_of_length_le (by omega)
   simp -implicitDefEqProofs[hlt]
   refine hQ2 _ _ _ (Ce ?_)
   show KE _ 0 _ Q _ _
   simp -implicitDefEqProofs[hkl,Ba (n:=(Eg c.l:Int)+1) (by omega) (by omega)]
   refine hQ _ _ _ ?_
   simp -implicitDefEqProofs[hz]
theorem Aka (c:Cn) (hc:Ap c≤1000000000000):Ab Tryz.prog Oj [Aa c] [] (.int .i64 (Cp c)) []:=
 Avw c hc fun x hx=>Aka x (by have:=Px hx;have:=Gp c;omega)
termination_by SizeOf.sizeOf c
decreasing_by exact Cn.lt_l ‹_›
end Go.Proofs.YtemdkfnenjpioaaGreatDoor
namespace Go.Proofs.YtemdkfnenjpioaaGreatDoor
open Go
theorem Asp {w w':World} {a:Addr} (h:w'.heap[a.block]? =w.heap[a.block]?):w'.cell? a=w.cell? a:=by
 unfold World.cell?;rw[h]
theorem Ab.below {P:Program} {f:FuncId} {args:List AV} {res:AV} (he:Gu P f=true)
 (h: ∀F g w vs,Dr P F w→(∀ a,F a→a.block < w.heap.size)→RL F g w args vs→Calls P f vs.toArray w fun e w'=>∃v,e= .returned v∧(w'.os=w.os∧w'.output=w.output)∧w.heap.size≤w'.heap.size∧(∀ k,k < w.heap.size→w'.heap[k]? =w.heap[k]?)∧
  ∀F':Addr→Prop,(∀ a,F a→F' a)→(∀ b off,w.heap.size≤b→b < w'.heap.size→F' ⟨b,off,none⟩)→R F' g w' res v):Ab P f args [] res []:=by
 refine⟨he,fun F g w vs hG hs hr=>(h F g w vs hG hs.live hr).mono ?_⟩
 rintro e w' ⟨v,rfl,hio,hsz,hk,hR⟩
 have hlive:=hs.live
 have hkeep: ∀a,F a→w'.cell? a=w.cell? a:=fun a ha=>Asp (hk _ (hlive a ha))
 refine⟨v,fun a=>F a∨(w.heap.size≤a.block∧a.block < w'.heap.size∧a.spot=Option.none),g,rfl,hR _ (fun a ha=>.inl ha) (fun b off h1 h2=>.inr ⟨h1,h2,rfl⟩),?_,?_⟩
 · refine⟨?_,hs.beyond,hs.inj,fun b cs hb=>by simp at hb,fun t n k ty ht=>by simp at ht,?_,fun b e cs hb=>by simp at hb,fun b ks hb=>by simp at hb⟩
   · rintro a (ha | ⟨_,ha,_⟩)
     · exact Nat.lt_of_lt_of_le (hlive a ha) hsz
     · exact ha
   · rintro b off s (ha | ⟨_,_,ha⟩)
     · exact hs.spots b off s ha
     · simp at ha
 · refine⟨fun a ha=>.inl ha,hkeep,Gh.le_refl g,hsz,fun B hB _=>hk B hB,?_,fun b B hb _=>by simp at hb,Nat.le_refl _,hio⟩
   rintro a (ha | ⟨ha,_,_⟩)
   · exact .inl ha
   · exact .inr (.inl ha)
theorem RL_two {F:Addr→Prop} {g:Gh} {w:World} {x y:AV} {vs:List Value} (h:RL F g w [x,y] vs): ∃v u,vs=[v,u]∧R F g w x v∧R F g w y u:=by
 simp only[RL] at h
 obtain⟨v,r,rfl,hv,u,r',rfl,hu,rfl⟩:=h
 exact⟨v,u,rfl,hv,hu⟩
theorem Zl {F:Addr→Prop} {g:Gh} {w:World} {s:List UInt8} (h:s.length≤A4):R F g w (.str s) (.string ⟨s.toArray⟩):=by
 unfold R;exact⟨rfl,h⟩
theorem RE_strs {F:Addr→Prop} {g:Gh} {w:World} {B:Nat} (l:List (List UInt8)) (off:Nat) (hF: ∀o,F ⟨B,o,none⟩) (hl: ∀s ∈ l,s.length≤A4)
 (hc: ∀(j:Nat) (s:List UInt8),l[j]? =some s→w.cell? ⟨B,off+j,none⟩=some (.string ⟨s.toArray⟩)):RE F g w B off 1 (Af l):=by
 induction l generalizing off with
 | nil=>trivial
 | cons s l ih=>
   simp only[Af,List.map_cons,RE]
   refine⟨rfl,?_,ih (off+1) (fun x hx=>hl x (by simp[hx])) (fun j x hx=>by
    have:=hc (j+1) x (by simpa using hx)
    rwa [show off+(j+1)=off+1+j from by omega] at this)⟩
   simp only[RM,AV.isCell,and_true,true_and]
   exact⟨_,hF _,by simpa using hc 0 s (by simp),Zl (hl s (by simp))⟩
end Go.Proofs.YtemdkfnenjpioaaGreatDoor
