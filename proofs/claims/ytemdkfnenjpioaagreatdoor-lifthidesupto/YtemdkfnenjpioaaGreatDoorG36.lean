/- Joined: Pk6 Ls Ls2 Lw Aw4. -/
import Derived.Test.YtemdkfnenjpioaaGreatDoorG31
import Derived.Test.YtemdkfnenjpioaaGreatDoorG35
import Derived.Test.YtemdkfnenjpioaaGreatDoorG32
set_option linter.unusedSimpArgs false
set_option linter.unusedVariables false
set_option linter.unusedSectionVars false
set_option linter.all false
set_option maxHeartbeats 4000000
set_option maxRecDepth 10000
namespace Go.Proofs.YtemdkfnenjpioaaGreatDoor
open Go Go.RowKit
attribute [local simp] Ar aev Ax A7 start AV.cells AV.undef Bc Be Bh Bl Bj AV.isCell Bf A1 Bi
attribute [local simp] fin A9 A8 Bb AV.strip Ay A5 AV.inScope Am A0 As
attribute [local simp] Ca Cg
attribute [-simp] Int.not_lt Int.not_le
theorem U8 (ks:List Kd) (s:Sm) (l:List Cn) (t:Te) (hA:PkA ks s l t): ∃p:Te × Int,Ab Tryz.prog Gj [Aw ks s,.sl .none (l.map Ai),Ae t] [] (teE p) []∧(p.2=0→tOk 400 p.1):=by
 cases hok:Gq ks s l t
 · exact⟨(Bv,1),Ayk ks s l t hA hok,by simp⟩
 have hok':=hok
 unfold Gq at hok'
 simp only[Bool.and_eq_true,decide_eq_true_eq] at hok'
 obtain⟨⟨⟨⟨k1,k2⟩,k3⟩,hl⟩,k5⟩:=hok'
 have hw:=Ahq k1
 clear k1 k2 k3 k5
 obtain⟨⟨o,e⟩,hsh,ho,_⟩:=Agd t 0 0 hA.t (by omega) (by omega) (by omega) (by omega)
 by_cases he:e=0
 case neg=>exact⟨(Bv,e),Au5 ks s l t hA hok o e he hsh,fun h=>absurd h he⟩
 subst he
 have ho:=ho rfl
 have hab:=Ai0 Aas ks s hA.s hw hA.k
 have hne:=@Ax2 ks s
 generalize Jj ks s=q at hab hne
 obtain⟨c,e⟩:=q
 by_cases he:e=0
 case neg=>exact⟨(Bv,e),pack_abs ks s l t hA hok o hsh c e he hab,fun h=>absurd h he⟩
 subst he
 obtain⟨hne,hsz⟩:=hne rfl
 simp only at hne hsz
 by_cases hpos:0 < l.length
 case neg=>
  obtain rfl:l=[]:=by cases l with
   | nil=>rfl
   | cons x l=>simp at hpos
  exact⟨(o,0),Ase ks s t hA hok o hsh c hab,fun _=>ho⟩
 rw[← hl] at hne
 cases hty:tyG l c with
 | none=>exact⟨(Bv,6),Axw ks s l t hA hok o hsh c hab hpos hsz hne hty,by simp⟩
 | some ts=>exact⟨_,A3b ks s l t hA hok o hsh c hab hpos hsz hne (by have:=hA.k;omega) ts hty (O1 _ _ ho),whE_ok⟩
open Classical in
noncomputable def pkE (ks:List Kd) (s:Sm) (l:List Cn) (t:Te):Te × Int:=if h:PkA ks s l t then (U8 ks s l t h).choose else (Bv,0)
theorem Afb {ks:List Kd} {s:Sm} {l:List Cn} {t:Te} (h:PkA ks s l t):Ab Tryz.prog Gj [Aw ks s,.sl .none (l.map Ai),Ae t] [] (teE (pkE ks s l t)) []∧((pkE ks s l t).2=0→tOk 400 (pkE ks s l t).1):=by
 rw[pkE,dif_pos h]; exact (U8 ks s l t h).choose_spec
theorem Abl {e:El} (h:elF e=true):e.ks.length≤1000∧Ct e.s=true∧tOk 400 e.t∧(∀ x ∈ e.w,A6 x=true)∧(e.pure=true→e.w.length=e.ks.length)∧(e.pure=false→e.w=[]):=by
 unfold elF at h
 simp only[Bool.and_eq_true] at h
 obtain⟨⟨⟨⟨h1,h2⟩,h3⟩,h4⟩,h5⟩:=h
 unfold Fb at h1
 simp only[Bool.and_eq_true,decide_eq_true_eq] at h1
 unfold puB at h5
 refine⟨h1.1,h2,teV_ok h3,fun x hx=>List.all_eq_true.1 h4 x hx,fun hp=>?_,fun hp=>?_⟩
 · rw[if_pos hp] at h5;simpa using h5
 · rw[if_neg (by simp[hp])] at h5;simpa using h5
def elI (e:El) (t:Te):El:=⟨e.ks,[],false,e.s,t⟩
noncomputable def Ea (e:El):El × Int:=if e.pure=true then (elI e (pkE e.ks e.s e.w e.t).1,(pkE e.ks e.s e.w e.t).2) else (e,0)
theorem el_pkA {e:El} (hb:elB e) (h:elF e=true):PkA e.ks e.s e.w e.t:=⟨hb.s,hb.t,hb.w,(Abl h).1⟩
set_option maxHeartbeats 1000000 in
theorem A1z (e:El) (hb:elB e) (hf:elF e=true):Mc Tryz.prog R6 [Av e] (Av (Ea e).1) (Ea e).2:=by
 cases hp:e.pure
 · have key:Ea e=(e,0):=by rw[Ea,if_neg (by simp[hp])]
   rw[key]
   refine⟨fun _=>?_,fun h=>absurd rfl h⟩
   refine Ab.go mixed Adf (by simp) fun hfit Q hQ=>?_
   clear hfit
   simp -implicitDefEqProofs[Vg,Av,Bd e,hp]
   refine hQ _ _ _ ?_
   simp -implicitDefEqProofs[Av,Bd e,hp]
 have key:Ea e=(elI e (pkE e.ks e.s e.w e.t).1,(pkE e.ks e.s e.w e.t).2):=by rw[Ea,if_pos hp]
 have hpk:=(Afb (el_pkA hb hf)).1
 rw[key]
 generalize pkE e.ks e.s e.w e.t=q at hpk ⊢
 obtain⟨t,r⟩:=q
 have hab:=Mp e
 clear key hb hf
 constructor
 · intro he
   simp only at he
   subst he
   refine Ab.go mixed Adf (by simp) fun hfit Q hQ=>?_
   clear hfit
   simp -implicitDefEqProofs[Vg,Av,Bd e,hp]
   refine Fe (fun _=>true) [] (by rfl) (by rfl) ?_
   simp -implicitDefEqProofs 
   refine Bp hab (by simp) (by simp[Aw]) (by simp[Av,Bd e,hp]) ?_
   simp -implicitDefEqProofs[Aw,Ak e.s]
   refine Bp hpk (by simp[Aw]) (Ex _ 0) (by simp[Aw,Ak e.s,Ae,Aj e.t]) ?_
   simp -implicitDefEqProofs[teE,Ae,Aj t]
   refine⟨fun b cs _ hb=>by simpa using Dj (L:=[_]) hb,?_⟩
   refine Ah (Jq) (by simp) (by simp) (by simp[Ag,Aa,Ac,Al,Af,Kd.l,An,Ak,Ae,Aj]) ?_
   simp -implicitDefEqProofs 
   refine hQ _ _ _ ?_
   simp -implicitDefEqProofs[elI,Av,Bd]
 · intro he
   simp only at he
   refine Ch.go mixed Adf (by simp) (by simp) fun hfit=>?_
   letI:Cc:=Dy r []
   clear hfit
   simp -implicitDefEqProofs[Vg,Av,Bd e,hp]
   refine Fe (fun _=>true) [] (by rfl) (by rfl) ?_
   simp -implicitDefEqProofs 
   refine Bp hab (by simp) (by simp[Aw]) (by simp[Av,Bd e,hp]) ?_
   simp -implicitDefEqProofs[Aw,Ak e.s]
   refine Bp hpk (by simp[Aw]) (Ex _ 0) (by simp[Aw,Ak e.s,Ae,Aj e.t]) ?_
   simp -implicitDefEqProofs[teE,Ae,Aj t]
   refine⟨fun b cs _ hb=>by simpa using Dj (L:=[_]) hb,?_⟩
   exact Ko (K5 r he) (by simp) (by simp) ⟨_,rfl⟩
theorem Ag8 {e:El} (hb:elB e) (hf:elF e=true) (h:(Ea e).2=0):elB (Ea e).1:=by
 unfold Ea at h ⊢
 split
 · rename_i hp
   rw[if_pos hp] at h
   exact⟨hb.s,O1 _ _ ((Afb (el_pkA hb hf)).2 h),fun x hx=>by cases hx⟩
 · exact hb
theorem A2q (e x:El) (Z:List AV) (hx:Ab Tryz.prog R6 [Av e] [] (Av x) []) (hz: ∀n,Am n Z=true):
 Ab Tryz.prog Q8 [.ptr 0 0] ([.var (Bx e),.var Z]++cL) (Av x) ([.var (Bx e),.var Z]++cL):=by
 refine Ab.go mixed Alk (by simp) fun hfit Q hQ=>?_
 clear hfit
 simp -implicitDefEqProofs[Ab9,cL,Bz]
 refine Ah hx (by simp) (by simp) (by simp[Av]) ?_
 simp -implicitDefEqProofs[Av]
 refine hQ _ _ _ ?_
 simp -implicitDefEqProofs[Av,cL,Bz,hz]
theorem Aym (e:El) (Z:List AV) (r:Int) (hx:Ch Tryz.prog R6 [Av e] [] r []) (hz: ∀n,Am n Z=true):
 Ch Tryz.prog Q8 [.ptr 0 0] ([.var (Bx e),.var Z]++cL) r ([.var (Bx e),.var Z]++cL):=by
 refine Ch.go mixed Alk (by simp) (by simp[As,cL,Bz,Am,AV.inScope,hz]) fun hfit=>?_
 letI:Cc:=Dy r ([.var (Bx e),.var Z]++cL)
 clear hfit
 simp -implicitDefEqProofs[Ab9,cL,Bz]
 exact Ko hx (by simp) (by simp[Av]) ⟨_,rfl⟩
noncomputable def F5 (e:El):El × Int:=if elF e=false then (Gx,1) else if (Ea e).2=0 then caR (Ea e).1 else (Gx,(Ea e).2)
theorem An3 (e:El) (hb:elB e):Ab Tryz.prog I2 [Av e] [] (elE (F5 e)) []:=by
 have hfm:=Yg e hb
 cases hf:elF e
 · have key:F5 e=(Gx,1):=by rw[F5,if_pos hf]
   rw[hf] at hfm
   refine Ab.go mixed Ajv (by simp) fun hfit Q hQ=>?_
   clear hfit
   simp -implicitDefEqProofs[Ado,Av]
   refine Ah hfm (by simp) (by simp) (by simp[Av]) ?_
   simp -implicitDefEqProofs 
   refine hQ _ _ _ ?_
   simp -implicitDefEqProofs[key,elE,Av,Wl,Bz]
 rw[hf] at hfm
 have key:F5 e=if (Ea e).2=0 then caR (Ea e).1 else (Gx,(Ea e).2):=by rw[F5,if_neg (by simp[hf])]
 have him:=A1z e hb hf
 have hib:=Ag8 hb hf
 have hsc:As 2 [HB.var (Bx e),HB.var Bz]=true:=by simp[As,Bz,Am,AV.inScope]
 have hca:Ab Tryz.prog I4 [.fn (.func Q8) [] [.ptr 0 0]] [.var (Bx e),.var Bz] (elE (F5 e)) [.var (Bx e),.var Bz]:=by
  by_cases h0:(Ea e).2=0
  · rw[key,if_pos h0]
    exact Adl rfl hsc (A2q e _ Bz (him.1 h0) (fun n=>by simp[Bz,Am,AV.inScope])) (hib h0)
  · rw[key,if_neg h0]
    exact Aev rfl hsc (Aym e Bz _ (him.2 h0) (fun n=>by simp[Bz,Am,AV.inScope]))
 clear key him hib hsc
 generalize F5 e=q at hca ⊢
 obtain⟨x,r⟩:=q
 refine Ab.go mixed Ajv (by simp) fun hfit Q hQ=>?_
 clear hfit
 simp -implicitDefEqProofs[Ado,Av]
 refine Ah hfm (by simp) (by simp) (by simp[Av]) ?_
 simp -implicitDefEqProofs 
 refine Br (by simpa[Bz] using hca) ?_
 simp -implicitDefEqProofs[elE,Av]
 refine hQ _ _ _ ?_
 simp -implicitDefEqProofs[elE,Av]
end Go.Proofs.YtemdkfnenjpioaaGreatDoor
namespace Go.Proofs.YtemdkfnenjpioaaGreatDoor
open Go Go.RowKit
attribute [local simp] Ar aev Ax A7 start AV.cells AV.undef Bc Be Bh Bl Bj AV.isCell Bf A1 Bi
attribute [local simp] fin A9 A8 Bb AV.strip Ay A5 AV.inScope Am A0 As
attribute [local simp] Ca Cg
attribute [-simp] Int.not_lt Int.not_le
def badC:List AV:=[.int .i64 9223372036854775808,.int .i64 0,.str [],.sl .none [],.sl .none [],.sl .none []]
def badT:List AV:=[.int .i64 9223372036854775808,.int .i64 0,.str [],.int .i64 0,.int .i64 0,.str [],.sl .none [],.sl .none [],.sl .none [],.int .i64 0,.int .i64 0,.str [],.sl .none [],.sl .none [],.sl .none [],.sl .none [],.sl .none [],.sl .none []]
def badS:List AV:=[.int .i64 9223372036854775808,.int .i64 0,.str [],.int .i64 0,.int .i64 0,.str [],.sl .none [],.sl .none [],.sl .none [],.sl .none [],.sl .none [],.sl .none [],.sl .none [],.sl .none []]
open Classical in
noncomputable def coE (w:List Cn) (c:Cn):Cn × Int:=if h:Ap c≤1000000000000∧∀x ∈ w,Ap x≤1000000000000 then (Ahz c w h.1 h.2).choose else (Az,0)
theorem X2 (w:List Cn) (c:Cn) (hc:Ap c≤1000000000000) (hw: ∀x ∈ w,Ap x≤1000000000000):Mc Tryz.prog Yo [Aa c,.sl .none (w.map Ai)] (Aa (coE w c).1) (coE w c).2∧Ap (coE w c).1≤20000:=by
 rw[coE,dif_pos ⟨hc,hw⟩]; exact (Ahz c w hc hw).choose_spec
noncomputable def coL (w:List Cn):List Cn→List Cn × Int
 | []=>([],0)
 | c :: l=>if (coE w c).2=0 then ((coE w c).1 :: (coL w l).1,(coL w l).2) else ([],(coE w c).2)
theorem coL_ok (w:List Cn) (c:Cn) (l:List Cn) (h:(coL w (c :: l)).2=0):(coE w c).2=0∧(coL w l).2=0∧(coL w (c :: l)).1=(coE w c).1 :: (coL w l).1:=by
 rw[coL] at h ⊢
 split at h
 · rename_i h0;rw[if_pos h0]; exact⟨h0,h,rfl⟩
 · rename_i h0;exact absurd h h0
theorem Am3 (w:List Cn) (hw: ∀x ∈ w,Ap x≤1000000000000): ∀(l:List Cn),(∀ x ∈ l,Ap x≤1000000000000)→∀x ∈ (coL w l).1,Ap x≤1000000000000
 | [],_,x,hx=>by simp[coL] at hx
 | c :: l,hl,x,hx=>by
   rw[coL] at hx
   split at hx
   · rcases List.mem_cons.1 hx with rfl | hx
     · have:=(X2 w c (hl c (by simp)) hw).2;omega
     · exact Am3 w hw l (fun y hy=>hl y (by simp[hy])) x hx
   · simp at hx
def Eb (ks:List Kd) (W:AV) (p:Bool) (s:Sm) (T:List AV):List AV:=.sl .none (ks.map Ao) :: W :: .bool p :: .int .i64 s.op :: .int .i64 s.n :: .str s.s :: .int .i64 s.con.op :: .int .i64 s.con.n :: .str s.con.s :: .sl .none (s.con.k.l.map Ao) :: .sl .none (Af s.con.names) :: .sl .none (s.con.l.map Ai) ::
 .sl .none (s.k.l.map Ao) :: .sl .none (s.ks.map Ao) :: .sl .none (s.more.map Ao) :: .sl .none (Af s.names) :: .sl .none (s.l.map B6) :: T
def Cf (e:El) (ks:List Kd) (s:Sm) (l:List Cn) (c:Te):List HB:=[.var (Bx e),.var (.sl .none (ks.map Ao) :: B6 s),.var [.sl .none (l.map Ai)],.var (Bm c),.var Bz]
theorem Nn (n:Nat) (e:El) (ks:List Kd) (s:Sm) (l:List Cn) (c:Te):As n (Cf e ks s l c)=true:=by simp[Cf,As,Am,AV.inScope,Bz]
theorem W1 {HV H0 H:List HB} (hv: ∀b,b < H0.length→∃cs:List AV,H0[b]? =some (HB.var cs)) (hpre: ∀(b:Nat) (cs:List AV),H0[b]? =some (HB.var cs)→HV[b]? =some (HB.var cs)) (hk:Cd (fun _=>true) HV H): ∃L,H=H0++L:=by
 refine⟨H.drop H0.length,?_⟩
 have key: ∀b,b < H0.length→H[b]? =H0[b]?:=fun b hb=>by
  obtain⟨cs,hcs⟩:=hv b hb
  rw[hcs]; exact hk b cs rfl (hpre b cs hcs)
 apply List.ext_getElem?
 intro i
 rcases Nat.lt_or_ge i H0.length with h | h
 · rw[List.getElem?_append_left h]; exact key i h
 · rw[List.getElem?_append_right h,List.getElem?_drop]; congr 1;omega
theorem Xa [Cc] {e:TypeId} {P:Program} {V:Nat→Bool} {nq:List Nat} {H0 H:List HB} {n:Nat} (A G:List HB) (hH:H=A++G) {tok:Tok} {els:List (List AV)} {k:Nat} {row:List AV} {dst:Option Nat} {l:List AO} {kf:List Fr} {Q:Bg} {t:List AV} (h:owns A.length G tok els k) (hl:els.length+1≤A4) (hk:C0 k els=true) (hr:row.length=k)
 (hn: ∀tok' G',owns A.length G' tok' (els++[row]) k→G.length≤G'.length→DR P V nq H0 (n+1) l kf Q (Ax t dst (.sl tok' (els++[row]))) (A++G')):En P V nq H0 n (C7 k e tok els [row] H) dst l kf Q t:=by
 subst hH
 exact Pm h hl hk hr hn
theorem Awf [Cc] (V:Nat→Bool) (nq:List Nat) (d:Nat) {P:Program} (hm:P.follows .mixedOrders=true) {ops:List AO} {ws:List (List Nat)} {k:List Fr} {Q:Bg} {t:List AV} {H:List HB} (hok:D8 ops ws (Da ops nq) ops.length=true) (ht:L7 ops nq=true)
 (h:DR P V nq H 0 ops [] (fun _ t' H'=>Cd V H H'∧Lt (t'.getD d .undef)=true) t H):WP P (.draw ops ws) k Q t H:=
 .inr (.inr (AWp.dead d (AWp.drawF (Q:=fun _ t' _=>Lt (t'.getD d .undef)=true) hm V nq hok ht h)))
theorem Ya (e:El) (ks:List Kd) (s:Sm) (l:List Cn) (c:Te): ∀b,b < (Cf e ks s l c++cL).length→∃cs,(Cf e ks s l c++cL)[b]? =some (.var cs):=by
 intro b hb
 have hb:b < 7:=hb
 match b,hb with
 | 0,_=>exact⟨_,rfl⟩
 | 1,_=>exact⟨_,rfl⟩
 | 2,_=>exact⟨_,rfl⟩
 | 3,_=>exact⟨_,rfl⟩
 | 4,_=>exact⟨_,rfl⟩
 | 5,_=>exact⟨_,rfl⟩
 | 6,_=>exact⟨_,rfl⟩
theorem Us (r:List AV):Lt (.agg (.int .i64 9223372036854775808 :: r))=true:=by rfl
theorem bad_row {F:Addr→Prop} {g:Gh} {w:World} {tok:Tok} {r:List AV} {rs:List (List AV)} {v:Value} (h:R F g w (.sl tok ((.int .i64 9223372036854775808 :: r) :: rs)) v):False:=by
 obtain⟨_,⟨h1,_⟩ | ⟨B,off,sp,cap,k,_,_,_,h3,_⟩⟩:=Ep h
 · cases h1
 · simp only[RE,RM] at h3
   obtain⟨_,⟨⟨_,v,_,_,h4⟩,_⟩,_⟩:=h3
   exact R_dead (v:=.int .i64 9223372036854775808) (by rfl) h4
theorem Apj (op n:Int) (tok:Tok) (r:List AV) (rs:List (List AV)) (H:List HB):Ab Tryz.prog Fw [.int .i64 op,.int .i64 n,.sl tok ((.int .i64 9223372036854775808 :: r) :: rs)] H (Ae Bv) H:=by
 refine⟨by kernel_rfl,fun F g w vs hG hs hr=>?_⟩
 simp only[RL] at hr
 obtain⟨_,_,_,_,_,_,_,_,_,_,_,h,_⟩:=hr
 exact (bad_row h).elim
theorem Rm (n:Nat):As n cL=true:=by simp[cL,Bz,As,Am,AV.inScope]
set_option maxHeartbeats 2000000 in
theorem Ayo (e:El) (ks:List Kd) (s:Sm) (l:List Cn) (c:Te) (hb:elB e) (hl: ∀x ∈ l,Ap x≤1000000000000) (hlm:l.length≤1000) (hp:e.pure=true) (W:List Cn) (hr:(coL e.w l).2=0) (hW:(coL e.w l).1=W) (y:Te) (hfi:Mc Tryz.prog S3 [Ae c,.sl .none (e.w.map Ai)] (Ae y) 0) (z:Te) (hnd:Ab Tryz.prog Fw [.int .i64 5,.int .i64 0,.sl .none ([y,e.t].map Bm)] [] (Ae z) []):
 Ab Tryz.prog H5 [.ptr 1 0,.ptr 0 0,.ptr 2 0,.ptr 3 0] (Cf e ks s l c++cL) (Av ⟨ks,W,true,s,z⟩) (Cf e ks s l c++cL):=by
 refine Ab.go mixed Mi (by simp) fun hfit Q hQ=>?_
 clear hfit
 simp -implicitDefEqProofs[Lc,Cf,cL,Bz,Bd e,Ak s,Aj c,hp]
 refine B5 (AWp.loopI [8] (fun n f h G=>∃(k:Nat) (tok:Tok) (P:List Cn),k+n=l.length∧P.length=k∧f 23= .int .i64 k∧h 8=Eb ks (.sl tok (P.map Ai)) true s Cw∧owns 9 G tok (P.map Ai) 6∧(coL e.w (l.drop k)).2=0∧P++(coL e.w (l.drop k)).1=W) (l.length) (by simp) ⟨0,.nilT,[],by simp,rfl,rfl,by simp[Dx,Eb,Cw],E7 _ _ _,hr,hW⟩ ?_)
 rintro n f h G ⟨k,tok,P,hk,hP,h23,h8,hown,hr,hW⟩
 refine AWp.run mixed fun Q2 hQ2=>?_
 simp -implicitDefEqProofs[AC.dsts,Au,At,Bo,h23,h8]
 by_cases hlt:k < l.length
 · have hd':=List.drop_eq_getElem_cons hlt
   have hcz:=X2 e.w l[k] (hl _ (List.getElem_mem _)) hb.w
   rw[hd'] at hr hW
   obtain⟨x,hx0⟩: ∃x,l[k]=x:=⟨_,rfl⟩
   rw[hx0] at hcz hr hW
   obtain⟨h0,hr2,hw2⟩:=coL_ok _ _ _ hr
   have hcz:=hcz.1.1 h0
   rw[hw2] at hW
   obtain⟨y,hy⟩: ∃y,(coE e.w x).1=y:=⟨_,rfl⟩
   rw[hy] at hcz hW
   simp -implicitDefEqProofs[hlt,hx0,Ac x,Eb,Cw]
   refine C3 (by rfl) ?_
   simp -implicitDefEqProofs 
   refine Bp hcz (by simp) (by simp) (by simp[Aa,Ac x]) ?_
   simp -implicitDefEqProofs[Aa,Ac y,A1]
   refine Xa [_,_,_,_,_,_,_,_,_] (G++[_]) (by simp only[List.append_assoc,List.cons_append,List.nil_append]; rfl) (by simpa using E5 hown) (by simp[A4]; omega) (Ek _ _ Hs) (by simp) fun tok' G' hown' hG'=>?_
   simp -implicitDefEqProofs[Ba (n:=(k:Int)+1) (by omega) (by omega)]
   refine hQ2 _ _ _ (Cb (n - 1) (fun _=>Eb ks (.sl tok' ((P++[y]).map Ai)) true s Cw) (G':=G') (by simp[Bo,Eb,Cw,Ac y]) (by omega) (by simp -implicitDefEqProofs[AC.dsts,Au,At,Aq]) ?_)
   exact⟨k+1,tok',P++[y],by omega,by simp[hP],by simp[Aq],rfl,by simpa[Ac y] using hown',hr2,by rw[← hW]; simp⟩
 · rw[List.drop_eq_nil_of_le (by omega),coL,List.append_nil] at hW
   simp -implicitDefEqProofs[hlt,Eb,Cw]
   refine hQ2 _ _ _ (Ce ?_)
   show KE _ 0 _ _ _ _
   simp -implicitDefEqProofs 
   refine C3 (by rfl) ?_
   simp -implicitDefEqProofs 
   refine Bp (hfi.1 rfl) (by simp) (by simp) (by simp[Ae,Aj c]) ?_
   simp -implicitDefEqProofs[Ae,Aj y]
   refine Bp hnd (by simp) (by simp) (by simp[Ae,Aj y,Aj e.t,A1]) ?_
   simp -implicitDefEqProofs[Ae,Aj z]
   refine hQ _ _ _ ?_
   simp -implicitDefEqProofs[Cf,cL,Bz,Av,Bd,Ak s,Aj c,Aj z,hW,hp,Yt,Eb]
set_option maxHeartbeats 2000000 in
theorem Ard (e:El) (ks:List Kd) (s:Sm) (l:List Cn) (c:Te) (hb:elB e) (hl: ∀x ∈ l,Ap x≤1000000000000) (hlm:l.length≤1000) (hp:e.pure=true) (r:Int) (hr0:r≠0) (hr:(coL e.w l).2=r) (hpos:0 < l.length):
 Ch Tryz.prog H5 [.ptr 1 0,.ptr 0 0,.ptr 2 0,.ptr 3 0] (Cf e ks s l c++cL) r (Cf e ks s l c++cL):=by
 refine Ch.go mixed Mi (by simp) (by rw[Ei,Nn,Rm]; rfl) fun hfit=>?_
 letI:Cc:=Dy r (Cf e ks s l c++cL)
 clear hfit
 simp -implicitDefEqProofs[Lc,Cf,cL,Bz,Bd e,Ak s,Aj c,hp]
 refine B5 (AWp.loopI [8] (fun n f h G=>∃(k:Nat) (tok:Tok) (P:List Cn),k+n=l.length∧P.length=k∧f 23= .int .i64 k∧h 8=Eb ks (.sl tok (P.map Ai)) true s Cw∧owns 9 G tok (P.map Ai) 6∧(coL e.w (l.drop k)).2=r∧k < l.length) (l.length) (by simp) ⟨0,.nilT,[],by simp,rfl,rfl,by simp[Dx,Eb,Cw],E7 _ _ _,hr,hpos⟩ ?_)
 rintro n f h G ⟨k,tok,P,hk,hP,h23,h8,hown,hr,hlt⟩
 refine AWp.run mixed fun Q2 hQ2=>?_
 simp -implicitDefEqProofs[AC.dsts,Au,At,Bo,h23,h8]
 have hd':=List.drop_eq_getElem_cons hlt
 have hcz:=X2 e.w l[k] (hl _ (List.getElem_mem _)) hb.w
 rw[hd'] at hr
 obtain⟨x,hx0⟩: ∃x,l[k]=x:=⟨_,rfl⟩
 rw[hx0] at hcz hr
 by_cases h0:(coE e.w x).2=0
 · have hcz:=hcz.1.1 h0
   rw[coL,if_pos h0] at hr
   simp only at hr
   obtain⟨y,hy⟩: ∃y,(coE e.w x).1=y:=⟨_,rfl⟩
   rw[hy] at hcz
   simp -implicitDefEqProofs[hlt,hx0,Ac x,Eb,Cw]
   refine C3 (by rfl) ?_
   simp -implicitDefEqProofs 
   refine Bp hcz (by simp) (by simp) (by simp[Aa,Ac x]) ?_
   simp -implicitDefEqProofs[Aa,Ac y,A1]
   refine Xa [_,_,_,_,_,_,_,_,_] (G++[_]) (by simp only[List.append_assoc,List.cons_append,List.nil_append]; rfl) (by simpa using E5 hown) (by simp[A4]; omega) (Ek _ _ Hs) (by simp) fun tok' G' hown' hG'=>?_
   simp -implicitDefEqProofs[Ba (n:=(k:Int)+1) (by omega) (by omega)]
   refine hQ2 _ _ _ (Cb (n - 1) (fun _=>Eb ks (.sl tok' ((P++[y]).map Ai)) true s Cw) (G':=G') (by simp[Bo,Eb,Cw,Ac y]) (by omega) (by simp -implicitDefEqProofs[AC.dsts,Au,At,Aq]) ?_)
   refine⟨k+1,tok',P++[y],by omega,by simp[hP],by simp[Aq],rfl,by simpa[Ac y] using hown',hr,?_⟩
   by_cases hlt2:k+1 < l.length
   · exact hlt2
   · rw[List.drop_eq_nil_of_le (by omega),coL] at hr;exact absurd hr.symm hr0
 · have hcz:=hcz.1.2 h0
   rw[coL,if_neg h0] at hr
   simp only at hr
   rw[hr] at hcz
   simp -implicitDefEqProofs[hlt,hx0,Ac x,Eb,Cw]
   refine Ad8 (fun _=>true) [] 32 mixed (by rfl) ?_
   simp -implicitDefEqProofs 
   refine Ub (.agg badC) hcz (by simp) (by simp[Aa,Ac x]) (fun H hk=>W1 (Ya e ks s l c) (fun b cs h=>?_) hk) ?_
   · rcases b with _ | _ | _ | _ | _ | _ | _ | b<;>simp_all[Cf,cL,Bz,Bd e,Ak s,Aj c]
   simp -implicitDefEqProofs[badC,A1]
   refine Xa [_,_,_,_,_,_,_,_,_] (G++[_]) (by simp only[List.append_assoc,List.cons_append,List.nil_append]; rfl) (by simpa using E5 hown) (by simp[A4]; omega) (Ek _ _ Hs) (by simp) fun tok' G' hown' hG'=>?_
   simp -implicitDefEqProofs 
   exact Us _
set_option maxHeartbeats 2000000 in
theorem Asi (e:El) (ks:List Kd) (s:Sm) (l:List Cn) (c:Te) (hb:elB e) (hl: ∀x ∈ l,Ap x≤1000000000000) (hlm:l.length≤1000) (hp:e.pure=true) (W:List Cn) (hr:(coL e.w l).2=0) (hW:(coL e.w l).1=W) (r:Int) (hfi:Ch Tryz.prog S3 [Ae c,.sl .none (e.w.map Ai)] [] r []):
 Ch Tryz.prog H5 [.ptr 1 0,.ptr 0 0,.ptr 2 0,.ptr 3 0] (Cf e ks s l c++cL) r (Cf e ks s l c++cL):=by
 refine Ch.go mixed Mi (by simp) (by rw[Ei,Nn,Rm]; rfl) fun hfit=>?_
 letI:Cc:=Dy r (Cf e ks s l c++cL)
 clear hfit
 simp -implicitDefEqProofs[Lc,Cf,cL,Bz,Bd e,Ak s,Aj c,hp]
 refine B5 (AWp.loopI [8] (fun n f h G=>∃(k:Nat) (tok:Tok) (P:List Cn),k+n=l.length∧P.length=k∧f 23= .int .i64 k∧h 8=Eb ks (.sl tok (P.map Ai)) true s Cw∧owns 9 G tok (P.map Ai) 6∧(coL e.w (l.drop k)).2=0∧P++(coL e.w (l.drop k)).1=W) (l.length) (by simp) ⟨0,.nilT,[],by simp,rfl,rfl,by simp[Dx,Eb,Cw],E7 _ _ _,hr,hW⟩ ?_)
 rintro n f h G ⟨k,tok,P,hk,hP,h23,h8,hown,hr,hW⟩
 refine AWp.run mixed fun Q2 hQ2=>?_
 simp -implicitDefEqProofs[AC.dsts,Au,At,Bo,h23,h8]
 by_cases hlt:k < l.length
 · have hd':=List.drop_eq_getElem_cons hlt
   have hcz:=X2 e.w l[k] (hl _ (List.getElem_mem _)) hb.w
   rw[hd'] at hr hW
   obtain⟨x,hx0⟩: ∃x,l[k]=x:=⟨_,rfl⟩
   rw[hx0] at hcz hr hW
   obtain⟨h0,hr2,hw2⟩:=coL_ok _ _ _ hr
   have hcz:=hcz.1.1 h0
   rw[hw2] at hW
   obtain⟨y,hy⟩: ∃y,(coE e.w x).1=y:=⟨_,rfl⟩
   rw[hy] at hcz hW
   simp -implicitDefEqProofs[hlt,hx0,Ac x,Eb,Cw]
   refine C3 (by rfl) ?_
   simp -implicitDefEqProofs 
   refine Bp hcz (by simp) (by simp) (by simp[Aa,Ac x]) ?_
   simp -implicitDefEqProofs[Aa,Ac y,A1]
   refine Xa [_,_,_,_,_,_,_,_,_] (G++[_]) (by simp only[List.append_assoc,List.cons_append,List.nil_append]; rfl) (by simpa using E5 hown) (by simp[A4]; omega) (Ek _ _ Hs) (by simp) fun tok' G' hown' hG'=>?_
   simp -implicitDefEqProofs[Ba (n:=(k:Int)+1) (by omega) (by omega)]
   refine hQ2 _ _ _ (Cb (n - 1) (fun _=>Eb ks (.sl tok' ((P++[y]).map Ai)) true s Cw) (G':=G') (by simp[Bo,Eb,Cw,Ac y]) (by omega) (by simp -implicitDefEqProofs[AC.dsts,Au,At,Aq]) ?_)
   exact⟨k+1,tok',P++[y],by omega,by simp[hP],by simp[Aq],rfl,by simpa[Ac y] using hown',hr2,by rw[← hW]; simp⟩
 · rw[List.drop_eq_nil_of_le (by omega),coL,List.append_nil] at hW
   simp -implicitDefEqProofs[hlt,Eb,Cw]
   refine hQ2 _ _ _ (Ce ?_)
   show KE _ 0 _ _ _ _
   simp -implicitDefEqProofs 
   refine Ad8 (fun _=>true) [] 40 mixed (by rfl) ?_
   simp -implicitDefEqProofs 
   refine Ub (.agg badT) hfi (by simp) (by simp[Ae,Aj c]) (fun H hk=>W1 (Ya e ks s l c) (fun b cs h=>?_) hk) ?_
   · rcases b with _ | _ | _ | _ | _ | _ | _ | b<;>simp_all[Cf,cL,Bz,Bd e,Ak s,Aj c]
   simp -implicitDefEqProofs[badT,A1]
   refine N5 (fun H=>Apj 5 0 _ _ _ H) ?_
   simp -implicitDefEqProofs[Ae,D9]
   exact Us _
set_option maxHeartbeats 2000000 in
theorem Ar9 (e:El) (ks:List Kd) (s:Sm) (l:List Cn) (c:Te) (hb:elB e) (hl: ∀x ∈ l,Ap x≤1000000000000) (hp:e.pure=false) (m:Int) (hm:(if (1:Int) < (e.ks.length:Int) then (e.ks.length:Int) else 1)=m) (r:Int) (hsf:Ch Tryz.prog Io [An s,.int .i64 e.ks.length,.int .i64 ks.length] [] r []):
 Ch Tryz.prog H5 [.ptr 1 0,.ptr 0 0,.ptr 2 0,.ptr 3 0] (Cf e ks s l c++cL) r (Cf e ks s l c++cL):=by
 refine Ch.go mixed Mi (by simp) (by rw[Ei,Nn,Rm]; rfl) fun hfit=>?_
 letI:Cc:=Dy r (Cf e ks s l c++cL)
 clear hfit
 simp -implicitDefEqProofs[Lc,Cf,cL,Bz,Bd e,Ak s,Aj c,hp]
 have hsm:=hm
 refine Ad8 (fun _=>true) [] 58 mixed (by rfl) ?_
 simp -implicitDefEqProofs 
 refine Ub (.agg badS) hsf (by simp) (by simp[An,Ak s]) (fun H hk=>W1 (Ya e ks s l c) (fun b cs h=>?_) hk) ?_
 · rcases b with _ | _ | _ | _ | _ | _ | _ | b<;>simp_all[Cf,cL,Bz,Bd e,Ak s,Aj c]
 simp -implicitDefEqProofs[badS]
 exact Us _
set_option maxHeartbeats 2000000 in
theorem Aso (e:El) (ks:List Kd) (s:Sm) (l:List Cn) (c:Te) (hb:elB e) (hl: ∀x ∈ l,Ap x≤1000000000000) (hp:e.pure=false) (m:Int) (hm:(if (1:Int) < (e.ks.length:Int) then (e.ks.length:Int) else 1)=m) (u:Sm) (hsf:Ab Tryz.prog Io [An s,.int .i64 e.ks.length,.int .i64 ks.length] [] (An u) []) (y1:Te) (hn1:Ab Tryz.prog Fw [.int .i64 1,.int .i64 0,.sl .none (([]:List Te).map Bm)] [] (Ae y1) []) (r:Int) (hmv:Ch Tryz.prog Pl [Ae c,.int .i64 0,.int .i64 m] [] r []) (pz:Te) (rz:Int) (hpz:Ab Tryz.prog Gj [Aw ks u,.sl .none (l.map Ai),Ae Bv] [] (teE (pz,rz)) []):
 Ch Tryz.prog H5 [.ptr 1 0,.ptr 0 0,.ptr 2 0,.ptr 3 0] (Cf e ks s l c++cL) r (Cf e ks s l c++cL):=by
 refine Ch.go mixed Mi (by simp) (by rw[Ei,Nn,Rm]; rfl) fun hfit=>?_
 letI:Cc:=Dy r (Cf e ks s l c++cL)
 clear hfit
 simp -implicitDefEqProofs[Lc,Cf,cL,Bz,Bd e,Ak s,Aj c,hp]
 have hsm:=hm
 refine C3 (by rfl) ?_
 simp -implicitDefEqProofs 
 refine Bp hsf (by simp) (by simp) (by simp[An,Ak s]) ?_
 simp -implicitDefEqProofs[An,Ak u]
 refine Awf (fun _=>true) [] 66 mixed (by rfl) (by rfl) ?_
 simp -implicitDefEqProofs[hsm]
 refine Ub (.agg badT) hmv (by simp) (by simp[Ae,Aj c,hsm]) (fun H hk=>W1 (Ya e ks s l c) (fun b cs h=>?_) hk) ?_
 · rcases b with _ | _ | _ | _ | _ | _ | _ | b<;>simp_all[Cf,cL,Bz,Bd e,Ak s,Aj c]
 simp -implicitDefEqProofs[badT,A1]
 refine Bp hn1 (by simp) (by simp) (by simp) ?_
 simp -implicitDefEqProofs[Ae,Aj y1,A1]
 refine N5 (fun H=>Apj 5 0 _ _ _ H) ?_
 simp -implicitDefEqProofs[Ae,D9]
 refine N5 (fun H=>(hpz.lift (by simp[Aw]) (Ex _ 0) H).args (by simp[Aw,Ak u,Ae,D9])) ?_
 simp -implicitDefEqProofs[teE,Ae,Aj pz]
 exact⟨fun b cs _ hb=>by simpa using Dj (L:=[_]) hb,Us _⟩
set_option maxHeartbeats 2000000 in
theorem Ayy (e:El) (ks:List Kd) (s:Sm) (l:List Cn) (c:Te) (hb:elB e) (hl: ∀x ∈ l,Ap x≤1000000000000) (hp:e.pure=false) (m:Int) (hm:(if (1:Int) < (e.ks.length:Int) then (e.ks.length:Int) else 1)=m) (u:Sm) (hsf:Ab Tryz.prog Io [An s,.int .i64 e.ks.length,.int .i64 ks.length] [] (An u) []) (y1:Te) (hn1:Ab Tryz.prog Fw [.int .i64 1,.int .i64 0,.sl .none (([]:List Te).map Bm)] [] (Ae y1) []) (y:Te) (hmv:Ab Tryz.prog Pl [Ae c,.int .i64 0,.int .i64 m] [] (Ae y) []) (v:Te) (hn5:Ab Tryz.prog Fw [.int .i64 5,.int .i64 0,.sl .none ([y,y1].map Bm)] [] (Ae v) []) (r:Int) (hr0:r≠0) (p:Te) (hpk:Ab Tryz.prog Gj [Aw ks u,.sl .none (l.map Ai),Ae v] [] (teE (p,r)) []):
 Ch Tryz.prog H5 [.ptr 1 0,.ptr 0 0,.ptr 2 0,.ptr 3 0] (Cf e ks s l c++cL) r (Cf e ks s l c++cL):=by
 refine Ch.go mixed Mi (by simp) (by rw[Ei,Nn,Rm]; rfl) fun hfit=>?_
 letI:Cc:=Dy r (Cf e ks s l c++cL)
 clear hfit
 simp -implicitDefEqProofs[Lc,Cf,cL,Bz,Bd e,Ak s,Aj c,hp]
 have hsm:=hm
 refine C3 (by rfl) ?_
 simp -implicitDefEqProofs 
 refine Bp hsf (by simp) (by simp) (by simp[An,Ak s]) ?_
 simp -implicitDefEqProofs[An,Ak u]
 refine Fe (fun _=>true) [] (by rfl) (by rfl) ?_
 simp -implicitDefEqProofs[hsm]
 refine Bp hmv (by simp) (by simp) (by simp[Ae,Aj c,hsm]) ?_
 simp -implicitDefEqProofs[Ae,Aj y]
 refine Bp hn1 (by simp) (by simp) (by simp) ?_
 simp -implicitDefEqProofs[Ae,Aj y1,A1]
 refine Bp hn5 (by simp) (by simp) (by simp[Aj y,Aj y1]) ?_
 simp -implicitDefEqProofs[Ae,Aj v]
 refine Bp hpk (by simp[Aw]) (Ex _ 0) (by simp[Aw,Ak u,Ae,Aj v]) ?_
 simp -implicitDefEqProofs[teE,Ae,Aj p]
 refine⟨fun b cs _ hb=>by simpa using Dj (L:=[_]) hb,?_⟩
 exact Ko (K5 r hr0) (by simp) (by simp) ⟨[.var Bz,.var (Eb ks (.sl .nilT []) false s Cw),.var (.sl .none (ks.map Ao) :: B6 u),.var (Bm p)],by simp[Cf,cL,Bz,Cw,Eb,Bd e,Ak s,Ak u,Aj c,Aj p,hp]⟩
set_option maxHeartbeats 2000000 in
theorem Azk (e:El) (ks:List Kd) (s:Sm) (l:List Cn) (c:Te) (hb:elB e) (hl: ∀x ∈ l,Ap x≤1000000000000) (hp:e.pure=false) (m:Int) (hm:(if (1:Int) < (e.ks.length:Int) then (e.ks.length:Int) else 1)=m) (u:Sm) (hsf:Ab Tryz.prog Io [An s,.int .i64 e.ks.length,.int .i64 ks.length] [] (An u) []) (y1:Te) (hn1:Ab Tryz.prog Fw [.int .i64 1,.int .i64 0,.sl .none (([]:List Te).map Bm)] [] (Ae y1) []) (y:Te) (hmv:Ab Tryz.prog Pl [Ae c,.int .i64 0,.int .i64 m] [] (Ae y) []) (v:Te) (hn5:Ab Tryz.prog Fw [.int .i64 5,.int .i64 0,.sl .none ([y,y1].map Bm)] [] (Ae v) []) (p:Te) (hpk:Ab Tryz.prog Gj [Aw ks u,.sl .none (l.map Ai),Ae v] [] (teE (p,0)) []) (z:Te) (hop:Ab Tryz.prog U3 [.int .i64 e.ks.length,Ae e.t,Ae p] [] (Ae z) []):
 Ab Tryz.prog H5 [.ptr 1 0,.ptr 0 0,.ptr 2 0,.ptr 3 0] (Cf e ks s l c++cL) (Av ⟨ks,[],false,s,z⟩) (Cf e ks s l c++cL):=by
 refine Ab.go mixed Mi (by simp) fun hfit Q hQ=>?_
 clear hfit
 simp -implicitDefEqProofs[Lc,Cf,cL,Bz,Bd e,Ak s,Aj c,hp]
 have hsm:=hm
 refine C3 (by rfl) ?_
 simp -implicitDefEqProofs 
 refine Bp hsf (by simp) (by simp) (by simp[An,Ak s]) ?_
 simp -implicitDefEqProofs[An,Ak u]
 refine Fe (fun _=>true) [] (by rfl) (by rfl) ?_
 simp -implicitDefEqProofs[hsm]
 refine Bp hmv (by simp) (by simp) (by simp[Ae,Aj c,hsm]) ?_
 simp -implicitDefEqProofs[Ae,Aj y]
 refine Bp hn1 (by simp) (by simp) (by simp) ?_
 simp -implicitDefEqProofs[Ae,Aj y1,A1]
 refine Bp hn5 (by simp) (by simp) (by simp[Aj y,Aj y1]) ?_
 simp -implicitDefEqProofs[Ae,Aj v]
 refine Bp hpk (by simp[Aw]) (Ex _ 0) (by simp[Aw,Ak u,Ae,Aj v]) ?_
 simp -implicitDefEqProofs[teE,Ae,Aj p]
 refine⟨fun b cs _ hb=>by simpa using Dj (L:=[_]) hb,?_⟩
 refine Ah (Jq) (by simp) (by simp) (by simp[Ag,Aa,Ac,Al,Af,Kd.l,An,Ak,Ae,Aj]) ?_
 simp -implicitDefEqProofs 
 refine Ah hop (by simp) (by simp) (by simp[Ae,Aj e.t,Aj p]) ?_
 simp -implicitDefEqProofs[Ae,Aj z]
 refine hQ _ _ _ ?_
 simp -implicitDefEqProofs[Cf,cL,Bz,Av,Bd,Ak s,Aj c,Aj z,hp,Eb]
end Go.Proofs.YtemdkfnenjpioaaGreatDoor
namespace Go.Proofs.YtemdkfnenjpioaaGreatDoor
open Go Go.RowKit
attribute [local simp] Ar aev Ax A7 start AV.cells AV.undef Bc Be Bh Bl Bj AV.isCell Bf A1 Bi
attribute [local simp] fin A9 A8 Bb AV.strip Ay A5 AV.inScope Am A0 As
attribute [local simp] Ca Cg
attribute [-simp] Int.not_lt Int.not_le
def L4:List AV:=[.int .i64 0,.int .i64 0,.str [],.sl .nilT [],.sl .nilT [],.sl .nilT []]
theorem A2e (e:El) (hp:e.pure=false) (c:Cn) (hab:Ab Tryz.prog Ls [Aw e.ks e.s] [] (cnE (c,0)) []):
 Ab Tryz.prog Uu [.ptr 0 0,.ptr 1 0] ([.var (Bx e),.var L4]++cL) (Av e) ([.var (Bx e),.var (Ai c)]++cL):=by
 have hA:=Mp e
 refine Ab.go mixed Ak0 (by simp) fun hfit Q hQ=>?_
 clear hfit
 simp -implicitDefEqProofs[Abr,cL,Bz,L4,Bd e,hp]
 refine Ah hA (by simp) (by simp[Aw]) (by simp[Av,Bd e,hp]) ?_
 simp -implicitDefEqProofs[Aw,Ak e.s]
 refine Ah hab (by simp[Aw]) (Co _ 0) (by simp[Aw,Ak e.s]) ?_
 simp -implicitDefEqProofs[cnE,Aa,Ac c]
 refine Ah (Jq) (by simp) (by simp) (by simp[Ag,Aa,Ac,Al,Af,Kd.l,An,Ak,Ae,Aj]) ?_
 simp -implicitDefEqProofs 
 refine hQ _ _ _ ?_
 simp -implicitDefEqProofs[Av,Bd e,hp,cL,Bz,Ac c]
theorem Aw0 (e:El) (hp:e.pure=false) (c:Cn) (r:Int) (hr:r≠0) (hab:Ab Tryz.prog Ls [Aw e.ks e.s] [] (cnE (c,r)) []):
 Ch Tryz.prog Uu [.ptr 0 0,.ptr 1 0] ([.var (Bx e),.var L4]++cL) r ([.var (Bx e),.var (Ai c)]++cL):=by
 have hA:=Mp e
 refine Ch.go mixed Ak0 (by simp) (by simp[As,cL,Bz,Am,AV.inScope]) fun hfit=>?_
 letI:Cc:=Dy r ([.var (Bx e),.var (Ai c)]++cL)
 clear hfit
 simp -implicitDefEqProofs[Abr,cL,Bz,L4,Bd e,hp]
 refine Ah hA (by simp) (by simp[Aw]) (by simp[Av,Bd e,hp]) ?_
 simp -implicitDefEqProofs[Aw,Ak e.s]
 refine Ah hab (by simp[Aw]) (Co _ 0) (by simp[Aw,Ak e.s]) ?_
 simp -implicitDefEqProofs[cnE,Aa,Ac c]
 exact Ko (K5 r hr) (by simp) (by simp) ⟨[.var Bz],by simp[cL,Bz,Bd e,hp,Ac c]⟩
def tyR (e:El):Cn × Int:=if (Fy e.ks e.s).2=0 then ((Fy e.ks e.s).1,0) else (Az,(Fy e.ks e.s).2)
theorem Asq (e:El) (hb:elB e) (hf:elF e=true) (hp:e.pure=false):Ab Tryz.prog Sj [Av e] [] (cnE (tyR e)) []:=by
 have hfm:=Yg e hb
 rw[hf] at hfm
 have hab:=Ahp Aas e.ks e.s hb.s
 have key:tyR e=if (Fy e.ks e.s).2=0 then ((Fy e.ks e.s).1,0) else (Az,(Fy e.ks e.s).2):=rfl
 generalize Fy e.ks e.s=q at hab key
 obtain⟨c,r⟩:=q
 simp only at key
 have hsc:As 2 [HB.var (Bx e),HB.var (Ai c)]=true:=by simp[As]
 have hcr:caR e=(e,0):=by rw[caR,if_pos hf]
 by_cases hr:r=0
 · subst hr
   rw[if_pos rfl] at key
   have hca:=Adl (H:=[.var (Bx e),.var L4]) (H':=[.var (Bx e),.var (Ai c)]) rfl hsc (A2e e hp c hab) hb
   rw[hcr] at hca
   refine Ab.go mixed Ams (by simp) fun hfit Q hQ=>?_
   clear hfit
   simp -implicitDefEqProofs[Zp,Av]
   refine Ah hfm (by simp) (by simp) (by simp[Av]) ?_
   simp -implicitDefEqProofs 
   refine Br (by simpa[L4] using hca) ?_
   simp -implicitDefEqProofs[elE,Av,Ac c]
   refine hQ _ _ _ ?_
   simp -implicitDefEqProofs[key,cnE,Aa,Ac c]
 · rw[if_neg hr] at key
   have hr':(r != 0)=true:=by simpa using hr
   have hca:=Aev (H:=[.var (Bx e),.var L4]) (H':=[.var (Bx e),.var (Ai c)]) rfl hsc (Aw0 e hp c r hr hab)
   refine Ab.go mixed Ams (by simp) fun hfit Q hQ=>?_
   clear hfit
   simp -implicitDefEqProofs[Zp,Av]
   refine Ah hfm (by simp) (by simp) (by simp[Av]) ?_
   simp -implicitDefEqProofs 
   refine Br (by simpa[L4] using hca) ?_
   simp -implicitDefEqProofs[elE,Av,Ac c,hr,hr']
   refine hQ _ _ _ ?_
   simp -implicitDefEqProofs[key,cnE,Aa,Cu]
theorem seal_1 (e:El) (ks:List Kd) (s:Sm) (l:List Cn) (c:Te) (hb:elB e) (hs:C1 s) (hl: ∀x ∈ l,Ap x≤1000000000000) (hc:teB c) (hok:O0 e ks s l c=true):
 (∃ x,Ab Tryz.prog H5 [.ptr 1 0,.ptr 0 0,.ptr 2 0,.ptr 3 0] (Cf e ks s l c++cL) (Av x) (Cf e ks s l c++cL)∧elB x∧x.ks=ks∧x.s=s∧x.pure=e.pure)∨
 ∃r,r≠0∧Ch Tryz.prog H5 [.ptr 1 0,.ptr 0 0,.ptr 2 0,.ptr 3 0] (Cf e ks s l c++cL) r (Cf e ks s l c++cL):=by
 unfold O0 at hok
 simp only[Bool.and_eq_true,decide_eq_true_eq] at hok
 obtain⟨⟨⟨⟨he,hk,hsf⟩,hv⟩,hlen⟩,htc⟩:=hok
 obtain⟨z1,z2,z3,z4,z5,z6⟩:=Abl he
 have hkl:ks.length≤1000:=by
  unfold Fb at hk
  simp only[Bool.and_eq_true,decide_eq_true_eq] at hk
  exact hk.1
 have hlm:l.length≤1000:=by omega
 cases hp:e.pure
 ·
  obtain⟨m,hm⟩: ∃m:Int,(if (1:Int) < (e.ks.length:Int) then (e.ks.length:Int) else 1)=m:=⟨_,rfl⟩
  have hmb:0≤m∧m≤20000:=by rw[← hm]; split<;>omega
  have hsh:=Aor s e.ks.length ks.length hs (by omega) (by omega) (by omega) (by omega)
  by_cases h1:(shM s e.ks.length ks.length).2=0
  case neg=>exact .inr ⟨_,h1,Ar9 e ks s l c hb hl hp m hm _ (hsh.2 h1)⟩
  have hu:=hsh.1 h1
  have hub:C1 (shM s e.ks.length ks.length).1:=by
   unfold shM at h1 ⊢
   split at h1
   · simp at h1
   · rename_i hn
     rw[if_neg hn]
     obtain⟨_,e2,e3⟩:=finS_ok h1
     rw[e3]; exact A1a e2
  generalize (shM s e.ks.length ks.length).1=u at hu hub
  clear hsh h1
  have hn1:=Nb 1 0 []
  obtain⟨p,hmv,hpo⟩:=Auv c 0 m hc (by omega) (by omega) hmb.1 hmb.2
  by_cases h2:p.2=0
  case neg=>
   obtain⟨⟨pz,rz⟩,hpz,_⟩:=U8 ks u l Bv ⟨hub,by rw[J1]; exact⟨by decide,by decide,by simp[Bv,Te.l]⟩,hl,hkl⟩
   exact .inr ⟨_,h2,Aso e ks s l c hb hl hp m hm u hu _ hn1 _ (hmv.2 h2) pz rz hpz⟩
  have hy:=hmv.1 h2
  have hyb:=O1 _ _ (hpo h2)
  generalize p.1=y at hy hyb
  have hn5:=Nb 5 0 [y,teN 1 0 []]
  have hvb:teB (teN 5 0 [y,teN 1 0 []]):=Mv fun x hx=>by
   simp only[List.mem_cons,List.not_mem_nil,or_false] at hx
   rcases hx with rfl | rfl
   · exact hyb
   · exact Mv fun x hx=>by simp at hx
  generalize teN 5 0 [y,teN 1 0 []]=v at hn5 hvb
  generalize teN 1 0 []=y1 at hn1 hn5
  obtain⟨⟨q,r⟩,hpk,hqo⟩:=U8 ks u l v ⟨hub,hvb,hl,hkl⟩
  by_cases h3:r=0
  case neg=>exact .inr ⟨r,h3,Ayy e ks s l c hb hl hp m hm u hu _ hn1 y hy v hn5 r h3 q hpk⟩
  subst h3
  obtain⟨z,hop,hzb⟩:=A17 e.ks.length e.t q (by omega) (by omega) hb.t (O1 _ _ (hqo rfl))
  exact .inl ⟨_,Azk e ks s l c hb hl hp m hm u hu _ hn1 y hy v hn5 q hpk z hop,⟨hs,hzb,fun x hx=>by cases hx⟩,rfl,rfl,rfl⟩
 ·
  by_cases h1:(coL e.w l).2=0
  case neg=>
   refine .inr ⟨_,h1,Ard e ks s l c hb hl hlm hp _ h1 rfl ?_⟩
   cases l with
   | nil=>exact absurd rfl h1
   | cons x l=>simp
  obtain⟨p,hfi,hpo⟩:=Awb c e.w hc hb.w
  by_cases h2:p.2=0
  case neg=>exact .inr ⟨_,h2,Asi e ks s l c hb hl hlm hp _ h1 rfl _ (hfi.2 h2)⟩
  have hyb:=O1 _ _ (hpo h2)
  rw[h2] at hfi
  generalize p.1=y at hfi hyb
  have hnd:=Nb 5 0 [y,e.t]
  have hzb:teB (teN 5 0 [y,e.t]):=Mv fun x hx=>by
   simp only[List.mem_cons,List.not_mem_nil,or_false] at hx
   rcases hx with rfl | rfl
   · exact hyb
   · exact hb.t
  exact .inl ⟨_,Ayo e ks s l c hb hl hlm hp _ h1 rfl y hfi _ hnd,⟨hs,hzb,Am3 e.w hb.w l hl⟩,rfl,rfl,rfl⟩
theorem As6 (e:El) (ks:List Kd) (s:Sm) (l:List Cn) (c:Te) (hb:elB e) (hs:C1 s) (hl: ∀x ∈ l,Ap x≤1000000000000) (hc:teB c):
 ∃p:El × Int,Ab Tryz.prog N1 [Av e,Aw ks s,.sl .none (l.map Ai),Ae c] [] (elE p) []∧(p.2=0→p.1.ks=ks∧p.1.s=s∧p.1.pure=e.pure)∧(p.2≠0→p.1.t.op=0):=by
 have hse:=Avn e ks s l c hb hs hl hc
 cases hok:O0 e ks s l c
 · rw[hok] at hse
   refine⟨(Gx,1),?_,by simp,fun _=>rfl⟩
   refine Ab.go mixed Am9 (by simp) fun hfit Q hQ=>?_
   clear hfit
   simp -implicitDefEqProofs[Aeu,Av,Aw,Ae]
   refine Ah hse (by simp[Aw]) (by simp) (by simp[Av,Aw,Ae]) ?_
   simp -implicitDefEqProofs 
   refine hQ _ _ _ ?_
   simp -implicitDefEqProofs[elE,Av,Wl,Bz]
 rw[hok] at hse
 have hca: ∃p:El × Int,Ab Tryz.prog I4 [.fn (.func H5) [] [.ptr 1 0,.ptr 0 0,.ptr 2 0,.ptr 3 0]] (Cf e ks s l c) (elE p) (Cf e ks s l c)∧(p.2=0→p.1.ks=ks∧p.1.s=s∧p.1.pure=e.pure)∧(p.2≠0→p.1.t.op=0):=by
  rcases seal_1 e ks s l c hb hs hl hc hok with⟨x,hx,hxb,h1,h2,h3⟩ | ⟨r,hr,hd⟩
  · refine⟨_,Adl rfl (Nn _ _ _ _ _ _) hx hxb,?_,?_⟩
    · unfold caR
      split
      · exact fun _=>⟨h1,h2,h3⟩
      · intro h;simp at h
    · unfold caR
      split
      · intro h;exact absurd rfl h
      · exact fun _=>rfl
  · exact⟨_,Aev rfl (Nn _ _ _ _ _ _) hd,fun h=>absurd h hr,fun _=>rfl⟩
 obtain⟨⟨x,r⟩,hca,hp⟩:=hca
 refine⟨(x,r),?_,hp⟩
 clear hp
 refine Ab.go mixed Am9 (by simp) fun hfit Q hQ=>?_
 clear hfit
 simp -implicitDefEqProofs[Aeu,Av,Aw,Ae]
 refine Ah hse (by simp[Aw]) (by simp) (by simp[Av,Aw,Ae]) ?_
 simp -implicitDefEqProofs 
 refine Br (by simpa[Cf,Bz] using hca) ?_
 simp -implicitDefEqProofs[elE,Av,Cf]
 refine hQ _ _ _ ?_
 simp -implicitDefEqProofs[elE,Av]
def Ln:Prop:=Ab Tryz.prog Rt [] [] (.bool true) []
theorem Ar1 {x:El} (hf:elF x=true) (hp:x.pure=false):F5 x=(x,0):=by
 have h1:Ea x=(x,0):=by rw[Ea,if_neg (by simp[hp])]
 rw[F5,if_neg (by simp[hf]),h1,if_pos rfl,caR,if_pos hf]
theorem impR_ok {e:El} (hb:elB e) (h:(F5 e).2=0): ∃x,F5 e=(x,0)∧elF x=true∧elB x∧x.pure=false∧x.w=[]∧x.ks=e.ks∧x.s=e.s:=by
 cases hf:elF e
 · rw[F5,if_pos hf] at h;simp at h
 have key:F5 e=if (Ea e).2=0 then caR (Ea e).1 else (Gx,(Ea e).2):=by rw[F5,if_neg (by simp[hf])]
 rw[key] at h ⊢
 split at h
 · rename_i h0
   rw[if_pos h0]
   unfold caR at h ⊢
   split at h
   · rename_i h1
     refine⟨_,by rw[if_pos h1],h1,Ag8 hb hf h0,?_⟩
     unfold Ea
     split
     · exact⟨rfl,rfl,rfl,rfl⟩
     · rename_i hp
       have hp:e.pure=false:=by simpa using hp
       exact⟨hp,(Abl hf).2.2.2.2.2 hp,rfl,rfl⟩
   · simp at h
 · rename_i h0;exact absurd h h0
set_option maxHeartbeats 2000000 in
theorem A2v (hAw:Ln) (e:El) (ks:List Kd) (s:Sm) (l:List Cn) (c:Te) (hb:elB e) (hfi:Ab Tryz.prog Lq [Aw ks s,.sl .none (l.map Ai),Ae c,.sl .none ([e].map Bx)] [] (.bool false) []):Ab Tryz.prog Nw [Av e,Aw ks s,.sl .none (l.map Ai),Ae c] [] (.bool true) []:=by
 refine Ab.go mixed Ro (by simp) fun hfit Q hQ=>?_
 clear hfit
 simp -implicitDefEqProofs[P7,Av,Aw,Ae,Ak s,Aj c,Bd e]
 refine Ah (hAw) (by simp) (by simp) (by simp[Ag,Aa,Ac,Al,Af,Kd.l,An,Ak,Ae,Aj]) ?_
 simp -implicitDefEqProofs[A1]
 refine Ah hfi (by simp[Aw]) (by simp) (by simp[Aw,Ak s,Ae,Aj c,Bd e]) ?_
 simp -implicitDefEqProofs 
 refine hQ _ _ _ ?_
 simp -implicitDefEqProofs 
set_option maxHeartbeats 4000000 in
theorem hides_xz (hAw:Ln) (e:El) (ks:List Kd) (s:Sm) (l:List Cn) (c:Te) (hb:elB e) (hfi:Ab Tryz.prog Lq [Aw ks s,.sl .none (l.map Ai),Ae c,.sl .none ([e].map Bx)] [] (.bool true) []) (x:El) (him:Ab Tryz.prog I2 [Av e] [] (elE (x,0)) []) (him2:Ab Tryz.prog I2 [Av x] [] (elE (x,0)) []) (hxp:x.pure=false) (hxw:x.w=[]) (q1:Cn) (r1:Int) (hty:Ab Tryz.prog Sj [Av x] [] (cnE (q1,r1)) []) (hab:Ab Tryz.prog Jc [Av e] [] (Aw e.ks e.s) []) (q2:Cn) (r2:Int) (hen:Ab Tryz.prog Ls [Aw e.ks e.s] [] (cnE (q2,r2)) []) (hq:r1=0→r2=0→q1=q2) (z:El) (r:Int) (hse:Ab Tryz.prog N1 [Av e,Aw ks s,.sl .none (l.map Ai),Ae c] [] (elE (z,r)) []) (hr:r=0) (hza:Ab Tryz.prog Jc [Av z] [] (Aw ks s) []) (hzp:z.pure=e.pure):Ab Tryz.prog Nw [Av e,Aw ks s,.sl .none (l.map Ai),Ae c] [] (.bool true) []:=by
 subst hr
 refine Ab.go mixed Ro (by simp) fun hfit Q hQ=>?_
 clear hfit
 simp -implicitDefEqProofs[P7,Av,Aw,Ae,Ak s,Aj c,Bd e]
 refine Ah (hAw) (by simp) (by simp) (by simp[Ag,Aa,Ac,Al,Af,Kd.l,An,Ak,Ae,Aj]) ?_
 simp -implicitDefEqProofs[A1]
 refine Ah hfi (by simp[Aw]) (by simp) (by simp[Aw,Ak s,Ae,Aj c,Bd e]) ?_
 simp -implicitDefEqProofs 
 refine Ah him (by simp) (Gw _ 0) (by simp[Av,Bd e]) ?_
 simp -implicitDefEqProofs[elE,Av,Bd x,hxp,hxw]
 refine Ah him2 (by simp) (Gw _ 0) (by simp[Av,Bd x,hxp,hxw]) ?_
 simp -implicitDefEqProofs[elE,Av,Bd x,hxp,hxw]
 refine Ah (Ah6 x) (by simp) (by simp) (by simp[Av,Bd x,hxp,hxw]) ?_
 simp -implicitDefEqProofs 
 refine Ah (Zq x.t) (by simp) (by simp) (by simp[Ae,Aj x.t]) ?_
 simp -implicitDefEqProofs 
 refine Ah hty (by simp) (Co _ 0) (by simp[Av,Bd x,hxp,hxw]) ?_
 simp -implicitDefEqProofs[cnE,Aa,Ac q1]
 refine Ah hab (by simp) (by simp[Aw]) (by simp[Av,Bd e]) ?_
 simp -implicitDefEqProofs[Aw,Ak e.s]
 refine Ah hen (by simp[Aw]) (Co _ 0) (by simp[Aw,Ak e.s]) ?_
 simp -implicitDefEqProofs[cnE,Aa,Ac q2]
 by_cases h1:r1=0
 · by_cases h2:r2=0
   · obtain rfl:=hq h1 h2
     have hsm:=Np q1 q1
     rw[Mk] at hsm
     simp -implicitDefEqProofs[h1,h2]
     refine Ah hsm (by simp) (by simp) (by simp[Aa,Ac q1]) ?_
     simp -implicitDefEqProofs 
     refine Ah hse (by simp[Aw]) (Gw _ 0) (by simp[Av,Bd e,Aw,Ak s,Ae,Aj c]) ?_
     simp -implicitDefEqProofs[elE,Av,Bd z]
     refine Ah hza (by simp) (by simp[Aw]) (by simp[Av,Bd z]) ?_
     simp -implicitDefEqProofs[Aw,Ak s]
     refine Ah (Wv ks s) (by simp[Aw]) (by simp) (by simp[Aw,Ak s]) ?_
     simp -implicitDefEqProofs[hzp]
     refine hQ _ _ _ ?_
     simp -implicitDefEqProofs[hzp]
   · have h2':(r2 == 0)=false:=by simpa using h2
     simp -implicitDefEqProofs[h1,h2,h2']
     refine Ah hse (by simp[Aw]) (Gw _ 0) (by simp[Av,Bd e,Aw,Ak s,Ae,Aj c]) ?_
     simp -implicitDefEqProofs[elE,Av,Bd z]
     refine Ah hza (by simp) (by simp[Aw]) (by simp[Av,Bd z]) ?_
     simp -implicitDefEqProofs[Aw,Ak s]
     refine Ah (Wv ks s) (by simp[Aw]) (by simp) (by simp[Aw,Ak s]) ?_
     simp -implicitDefEqProofs[hzp]
     refine hQ _ _ _ ?_
     simp -implicitDefEqProofs[hzp]
 · have h1':(r1 == 0)=false:=by simpa using h1
   simp -implicitDefEqProofs[h1,h1']
   refine Ah hse (by simp[Aw]) (Gw _ 0) (by simp[Av,Bd e,Aw,Ak s,Ae,Aj c]) ?_
   simp -implicitDefEqProofs[elE,Av,Bd z]
   refine Ah hza (by simp) (by simp[Aw]) (by simp[Av,Bd z]) ?_
   simp -implicitDefEqProofs[Aw,Ak s]
   refine Ah (Wv ks s) (by simp[Aw]) (by simp) (by simp[Aw,Ak s]) ?_
   simp -implicitDefEqProofs[hzp]
   refine hQ _ _ _ ?_
   simp -implicitDefEqProofs[hzp]
set_option maxHeartbeats 4000000 in
theorem hides_xn (hAw:Ln) (e:El) (ks:List Kd) (s:Sm) (l:List Cn) (c:Te) (hb:elB e) (hfi:Ab Tryz.prog Lq [Aw ks s,.sl .none (l.map Ai),Ae c,.sl .none ([e].map Bx)] [] (.bool true) []) (x:El) (him:Ab Tryz.prog I2 [Av e] [] (elE (x,0)) []) (him2:Ab Tryz.prog I2 [Av x] [] (elE (x,0)) []) (hxp:x.pure=false) (hxw:x.w=[]) (q1:Cn) (r1:Int) (hty:Ab Tryz.prog Sj [Av x] [] (cnE (q1,r1)) []) (hab:Ab Tryz.prog Jc [Av e] [] (Aw e.ks e.s) []) (q2:Cn) (r2:Int) (hen:Ab Tryz.prog Ls [Aw e.ks e.s] [] (cnE (q2,r2)) []) (hq:r1=0→r2=0→q1=q2) (z:El) (r:Int) (hse:Ab Tryz.prog N1 [Av e,Aw ks s,.sl .none (l.map Ai),Ae c] [] (elE (z,r)) []) (hr:r≠0) (hz:z.t.op=0):Ab Tryz.prog Nw [Av e,Aw ks s,.sl .none (l.map Ai),Ae c] [] (.bool true) []:=by
 have hr':(r != 0)=true:=by simpa using hr
 refine Ab.go mixed Ro (by simp) fun hfit Q hQ=>?_
 clear hfit
 simp -implicitDefEqProofs[P7,Av,Aw,Ae,Ak s,Aj c,Bd e]
 refine Ah (hAw) (by simp) (by simp) (by simp[Ag,Aa,Ac,Al,Af,Kd.l,An,Ak,Ae,Aj]) ?_
 simp -implicitDefEqProofs[A1]
 refine Ah hfi (by simp[Aw]) (by simp) (by simp[Aw,Ak s,Ae,Aj c,Bd e]) ?_
 simp -implicitDefEqProofs 
 refine Ah him (by simp) (Gw _ 0) (by simp[Av,Bd e]) ?_
 simp -implicitDefEqProofs[elE,Av,Bd x,hxp,hxw]
 refine Ah him2 (by simp) (Gw _ 0) (by simp[Av,Bd x,hxp,hxw]) ?_
 simp -implicitDefEqProofs[elE,Av,Bd x,hxp,hxw]
 refine Ah (Ah6 x) (by simp) (by simp) (by simp[Av,Bd x,hxp,hxw]) ?_
 simp -implicitDefEqProofs 
 refine Ah (Zq x.t) (by simp) (by simp) (by simp[Ae,Aj x.t]) ?_
 simp -implicitDefEqProofs 
 refine Ah hty (by simp) (Co _ 0) (by simp[Av,Bd x,hxp,hxw]) ?_
 simp -implicitDefEqProofs[cnE,Aa,Ac q1]
 refine Ah hab (by simp) (by simp[Aw]) (by simp[Av,Bd e]) ?_
 simp -implicitDefEqProofs[Aw,Ak e.s]
 refine Ah hen (by simp[Aw]) (Co _ 0) (by simp[Aw,Ak e.s]) ?_
 simp -implicitDefEqProofs[cnE,Aa,Ac q2]
 by_cases h1:r1=0
 · by_cases h2:r2=0
   · obtain rfl:=hq h1 h2
     have hsm:=Np q1 q1
     rw[Mk] at hsm
     simp -implicitDefEqProofs[h1,h2]
     refine Ah hsm (by simp) (by simp) (by simp[Aa,Ac q1]) ?_
     simp -implicitDefEqProofs 
     refine Ah hse (by simp[Aw]) (Gw _ 0) (by simp[Av,Bd e,Aw,Ak s,Ae,Aj c]) ?_
     simp -implicitDefEqProofs[elE,Av,Bd z,hr,hr',hz]
     refine hQ _ _ _ ?_
     simp -implicitDefEqProofs[hz]
   · have h2':(r2 == 0)=false:=by simpa using h2
     simp -implicitDefEqProofs[h1,h2,h2']
     refine Ah hse (by simp[Aw]) (Gw _ 0) (by simp[Av,Bd e,Aw,Ak s,Ae,Aj c]) ?_
     simp -implicitDefEqProofs[elE,Av,Bd z,hr,hr',hz]
     refine hQ _ _ _ ?_
     simp -implicitDefEqProofs[hz]
 · have h1':(r1 == 0)=false:=by simpa using h1
   simp -implicitDefEqProofs[h1,h1']
   refine Ah hse (by simp[Aw]) (Gw _ 0) (by simp[Av,Bd e,Aw,Ak s,Ae,Aj c]) ?_
   simp -implicitDefEqProofs[elE,Av,Bd z,hr,hr',hz]
   refine hQ _ _ _ ?_
   simp -implicitDefEqProofs[hz]
set_option maxHeartbeats 4000000 in
theorem hides_nz (hAw:Ln) (e:El) (ks:List Kd) (s:Sm) (l:List Cn) (c:Te) (hb:elB e) (hfi:Ab Tryz.prog Lq [Aw ks s,.sl .none (l.map Ai),Ae c,.sl .none ([e].map Bx)] [] (.bool true) []) (x:El) (m:Int) (him:Ab Tryz.prog I2 [Av e] [] (elE (x,m)) []) (hm:m≠0) (z:El) (r:Int) (hse:Ab Tryz.prog N1 [Av e,Aw ks s,.sl .none (l.map Ai),Ae c] [] (elE (z,r)) []) (hr:r=0) (hza:Ab Tryz.prog Jc [Av z] [] (Aw ks s) []) (hzp:z.pure=e.pure):Ab Tryz.prog Nw [Av e,Aw ks s,.sl .none (l.map Ai),Ae c] [] (.bool true) []:=by
 have hm':(m != 0)=true:=by simpa using hm
 have hm2:(m == 0)=false:=by simpa using hm
 subst hr
 refine Ab.go mixed Ro (by simp) fun hfit Q hQ=>?_
 clear hfit
 simp -implicitDefEqProofs[P7,Av,Aw,Ae,Ak s,Aj c,Bd e]
 refine Ah (hAw) (by simp) (by simp) (by simp[Ag,Aa,Ac,Al,Af,Kd.l,An,Ak,Ae,Aj]) ?_
 simp -implicitDefEqProofs[A1]
 refine Ah hfi (by simp[Aw]) (by simp) (by simp[Aw,Ak s,Ae,Aj c,Bd e]) ?_
 simp -implicitDefEqProofs 
 refine Ah him (by simp) (Gw _ 0) (by simp[Av,Bd e]) ?_
 simp -implicitDefEqProofs[elE,Av,hm,hm',hm2]
 refine Ah hse (by simp[Aw]) (Gw _ 0) (by simp[Av,Bd e,Aw,Ak s,Ae,Aj c]) ?_
 simp -implicitDefEqProofs[elE,Av,Bd z]
 refine Ah hza (by simp) (by simp[Aw]) (by simp[Av,Bd z]) ?_
 simp -implicitDefEqProofs[Aw,Ak s]
 refine Ah (Wv ks s) (by simp[Aw]) (by simp) (by simp[Aw,Ak s]) ?_
 simp -implicitDefEqProofs[hzp]
 refine hQ _ _ _ ?_
 simp -implicitDefEqProofs[hzp]
set_option maxHeartbeats 4000000 in
theorem hides_nn (hAw:Ln) (e:El) (ks:List Kd) (s:Sm) (l:List Cn) (c:Te) (hb:elB e) (hfi:Ab Tryz.prog Lq [Aw ks s,.sl .none (l.map Ai),Ae c,.sl .none ([e].map Bx)] [] (.bool true) []) (x:El) (m:Int) (him:Ab Tryz.prog I2 [Av e] [] (elE (x,m)) []) (hm:m≠0) (z:El) (r:Int) (hse:Ab Tryz.prog N1 [Av e,Aw ks s,.sl .none (l.map Ai),Ae c] [] (elE (z,r)) []) (hr:r≠0) (hz:z.t.op=0):Ab Tryz.prog Nw [Av e,Aw ks s,.sl .none (l.map Ai),Ae c] [] (.bool true) []:=by
 have hm':(m != 0)=true:=by simpa using hm
 have hm2:(m == 0)=false:=by simpa using hm
 have hr':(r != 0)=true:=by simpa using hr
 refine Ab.go mixed Ro (by simp) fun hfit Q hQ=>?_
 clear hfit
 simp -implicitDefEqProofs[P7,Av,Aw,Ae,Ak s,Aj c,Bd e]
 refine Ah (hAw) (by simp) (by simp) (by simp[Ag,Aa,Ac,Al,Af,Kd.l,An,Ak,Ae,Aj]) ?_
 simp -implicitDefEqProofs[A1]
 refine Ah hfi (by simp[Aw]) (by simp) (by simp[Aw,Ak s,Ae,Aj c,Bd e]) ?_
 simp -implicitDefEqProofs 
 refine Ah him (by simp) (Gw _ 0) (by simp[Av,Bd e]) ?_
 simp -implicitDefEqProofs[elE,Av,hm,hm',hm2]
 refine Ah hse (by simp[Aw]) (Gw _ 0) (by simp[Av,Bd e,Aw,Ak s,Ae,Aj c]) ?_
 simp -implicitDefEqProofs[elE,Av,Bd z,hr,hr',hz]
 refine hQ _ _ _ ?_
 simp -implicitDefEqProofs[hz]
theorem At9 (hAw:Ln) (e:El) (ks:List Kd) (s:Sm) (l:List Cn) (c:Te) (hb:elB e) (hs:C1 s) (hl: ∀x ∈ l,Ap x≤1000000000000) (hc:teB c):
 Ab Tryz.prog Nw [Av e,Aw ks s,.sl .none (l.map Ai),Ae c] [] (.bool true) []:=by
 obtain⟨b,hfi⟩:=Arm ks s l c [e]
 cases b
 · exact A2v hAw e ks s l c hb hfi
 obtain⟨⟨z,r⟩,hse,hz0,hz1⟩:=As6 e ks s l c hb hs hl hc
 have him:=An3 e hb
 by_cases hm:(F5 e).2=0
 · obtain⟨x,hx,hxf,hxb,hxp,hxw,hxk,hxs⟩:=impR_ok hb hm
   rw[hx] at him
   have him2:=An3 x hxb
   rw[Ar1 hxf hxp] at him2
   have hty:=Asq x hxb hxf hxp
   have hen:=Ahp Aas e.ks e.s hb.s
   have hq:(tyR x).2=0→(Fy e.ks e.s).2=0→(tyR x).1=(Fy e.ks e.s).1:=by
    intro _ h2
    unfold tyR
    rw[hxk,hxs,if_pos h2]
   generalize tyR x=q1 at hty hq
   generalize Fy e.ks e.s=q2 at hen hq
   obtain⟨q1,r1⟩:=q1
   obtain⟨q2,r2⟩:=q2
   by_cases hr:r=0
   · obtain⟨h1,h2,h3⟩:=hz0 hr
     have hza:=Mp z
     simp only at h1 h2 h3
     rw[h1,h2] at hza
     exact hides_xz hAw e ks s l c hb hfi x him him2 hxp hxw q1 r1 hty (Mp e) q2 r2 hen hq z r hse hr hza h3
   · exact hides_xn hAw e ks s l c hb hfi x him him2 hxp hxw q1 r1 hty (Mp e) q2 r2 hen hq z r hse hr (hz1 hr)
 · generalize F5 e=q at him hm
   obtain⟨x,m⟩:=q
   by_cases hr:r=0
   · obtain⟨h1,h2,h3⟩:=hz0 hr
     have hza:=Mp z
     simp only at h1 h2 h3
     rw[h1,h2] at hza
     exact hides_nz hAw e ks s l c hb hfi x m him hm z r hse hr hza h3
   · exact hides_nn hAw e ks s l c hb hfi x m him hm z r hse hr (hz1 hr)
end Go.Proofs.YtemdkfnenjpioaaGreatDoor
namespace Go.Proofs.YtemdkfnenjpioaaGreatDoor
open Go
attribute [local simp] Ar aev Ax A7 start AV.cells AV.undef Bc Be Bh Bl Bj AV.isCell Bf A1 Bi
attribute [local simp] fin A9 A8 Bb AV.strip Ay A5 AV.inScope Am A0 As
attribute [local simp] Ca Cg
attribute [-simp] Int.not_lt Int.not_le
set_option maxRecDepth 1000000 in
theorem Avk:Ab Tryz.prog Sq [Aa Qy,Ag (.mk [])] [] (teE (Vn,0)) []:=I5 mixed Jz Js 40 _ _ [] _ [] (by kernel_rfl)
set_option maxRecDepth 1000000 in
theorem aw_Valid:Ab Tryz.prog Gi [Ae aw_t] [] (.bool true) []:=I5 mixed Jz Js 40 _ _ [] _ [] (by kernel_rfl)
set_option maxRecDepth 1000000 in
theorem Aup:Ab Tryz.prog Gi [Ae V2] [] (.bool true) []:=I5 mixed Jz Js 40 _ _ [] _ [] (by kernel_rfl)
set_option maxRecDepth 1000000 in
theorem aw_Text1:Ab Tryz.prog Nt [Aa I9] [] (.tup [.str [40,102,110,32,42,46,32,40,102,110,32,42,46,32,105,110,116,41,41],.int .i64 0]) []:=I5 mixed Jz Js 40 _ _ [] _ [] (by kernel_rfl)
set_option maxRecDepth 1000000 in
theorem aw_Text2:Ab Tryz.prog Nt [Aa Eu] [] (.tup [.str [40,40,35,50,32,35,49,41,32,35,48,41],.int .i64 0]) []:=I5 mixed Jz Js 40 _ _ [] _ [] (by kernel_rfl)
theorem aw_w0:Ab Tryz.prog Rx [.sl .none ([I9].map Ai)] [] (Aa I9) []:=I5 mixed Jz Js 40 _ _ [] _ [] (by kernel_rfl)
theorem aw_u0:Ab Tryz.prog Tz [An Fi] [] (Aa Eu) []:=I5 mixed Jz Js 40 _ _ [] _ [] (by kernel_rfl)
theorem Tu {n m:Int} {k:Kd} {ns:List (List UInt8)} {l:List Te} {c:Cn} (hc:Ap c≤1000000000000) (h: ∀x ∈ l,teB x):teB (.mk n m [] c Az k ns l):=by
 rw[J1]; exact⟨hc,by show Ap Az≤_;decide,h⟩
theorem aw_tb:teB aw_t:=Tu (by decide) fun x hx=>by
 rw[List.mem_singleton.1 hx]
 exact Tu (by decide) fun x hx=>by
  rw[List.mem_singleton.1 hx]
  exact Tu (by decide) fun x hx=>by
   rw[List.mem_singleton.1 hx]
   exact Tu (by decide) fun x hx=>by cases hx
theorem aw_eb:elB Hv:=⟨Aa4,aw_tb,fun x hx=>by rw[List.mem_singleton.1 hx]; decide⟩
theorem aw_xb:elB I8:=⟨Alt,Tu (by decide) (fun x hx=>by cases hx),fun x hx=>by rw[List.mem_singleton.1 hx]; decide⟩
theorem aw_fe:Ab Tryz.prog Gv [Av Hv] [] (.bool true) []:=by
 have h:=Zw Hv aw_eb true aw_Valid
 have e:(Fb Hv.ks && Ct Hv.s && true && Hv.w.all A6 && puB Hv)=true:=by kernel_rfl
 rwa [e] at h
theorem aw_fx:Ab Tryz.prog Gv [Av I8] [] (.bool true) []:=by
 have h:=Zw I8 aw_xb true Aup
 have e:(Fb I8.ks && Ct I8.s && true && I8.w.all A6 && puB I8)=true:=by kernel_rfl
 rwa [e] at h
theorem A0j:Ab Tryz.prog I4 [.fn (.func Pt) [] [.ptr 0 0,.ptr 1 0]] L5 (elE (I8,0)) L5:=by
 have h:=Af2 (H:=L5) (H':=L5) aw_fx rfl (by simp[L5,F6,As,Am,AV.inScope]) A2b
 simpa using h
theorem keep2 {a b c c' d:HB} {i:Nat} {cs:List AV} (hb:(!decide (i=2))=true) (h:[a,b,c,d][i]? =some (.var cs)):[a,b,c',d][i]? =some (.var cs):=by
 rcases i with _ | _ | _ | _ | i
 · exact h
 · exact h
 · simp at hb
 · exact h
 · simp at h
theorem aw_Pure:Ab Tryz.prog Aei [Av Hv,.sl .none (Ow.map Ao)] [] (.tup [.sl .none ([aw_k].map Ao),.sl .none ([I9].map Ai),An Fi,.int .i64 0]) []:=by
 have h1:=aw_fe
 have h2:=Ae0 Ow
 have e2:Fb Ow=true:=by kernel_rfl
 rw[e2] at h2
 have h3:=A0j
 have hp:Hv.pure=true:=rfl
 unfold L5 at h3
 have hx:elE (I8,0)= .tup [.agg (.sl .none ([aw_k].map Ao) :: .sl .none ([I9].map Ai) :: .bool true :: (B6 Fi++Bm V2)),.int .i64 0]:=rfl
 rw[hx] at h3
 clear hx e2
 generalize Hv=e at h1 h3 hp ⊢
 generalize Ow=ps at h2 h3 ⊢
 generalize [aw_k]=ks at h3 ⊢
 generalize [I9]=ws at h3 ⊢
 generalize Fi=s at h3 ⊢
 generalize V2=t at h3
 refine Ab.go mixed Atn (by simp) fun hfit Q hQ=>?_
 clear hfit
 simp -implicitDefEqProofs[Al7,Av,Bd e,hp]
 refine Ah h1 (by simp) (by simp) (by simp[Av,Bd e,hp]) ?_
 simp -implicitDefEqProofs 
 refine Ah (h2) (by simp) (by simp) (by simp[Ag,Aa,Ac,Al,Af,Kd.l,An,Ak,Ae,Aj]) ?_
 simp -implicitDefEqProofs 
 refine Br (by simpa[F6,Bd e,hp] using h3) ?_
 simp -implicitDefEqProofs[Ak s,Aj t]
 refine Fe (fun b=>decide (b≠2)) [] (by rfl) (by rfl) ?_
 simp -implicitDefEqProofs 
 refine⟨fun b cs hb hh=>keep2 hb hh,?_⟩
 refine hQ _ _ _ ?_
 simp -implicitDefEqProofs[An,Ak s]
set_option maxHeartbeats 2000000 in
theorem Avb:Ln:=by
 have h1:=Avk
 have h2:=aw_Pure
 have h3:=aw_w0
 have h4:=aw_u0
 have h5:=aw_Text1
 have h6:=aw_Text2
 have he:Av Hv= .agg [.sl .none [[.sl .none []]],.sl .none [[.int .i64 4,.int .i64 0,.str [],.sl .none [],.sl .none [],.sl .none []]],.bool true,.int .i64 5,.int .i64 0,.str [],.int .i64 0,.int .i64 0,.str [],.sl .none [],.sl .none [],.sl .none [],.sl .none [],.sl .none [],.sl .none [],.sl .none [[.str [116,121,112,101,46,116]]],.sl .none [[.int .i64 2,.int .i64 0,.str [],.int .i64 1,.int .i64 0,.str [],.sl .none [],.sl .none [],.sl .none [],.sl .none [],.sl .none [],.sl .none [],.sl .none [],.sl .none []]],.int .i64 10,.int .i64 0,.str [],.int .i64 0,.int .i64 0,.str [],.sl .none [],.sl .none [],.sl .none [],.int .i64 0,.int .i64 0,.str [],.sl .none [],.sl .none [],.sl .none [],.sl .none [],.sl .none [[.str [116,121,112,101,46,116]]],.sl .none [Bm Vn]]:=by rfl
 have hps:Ow.map Ao=[[.sl .none []],[.sl .none []]]:=by rfl
 have hk:[aw_k].map Ao=[[.sl .none [[.sl .none []],[.sl .none [[.sl .none []],[.sl .none []]]]]]]:=by rfl
 have hi:Aa Qy= .agg [.int .i64 4,.int .i64 0,.str [],.sl .none [],.sl .none [],.sl .none []]:=by rfl
 have hkd:Ag (.mk [])= .agg [.sl .none []]:=by rfl
 have hw:[I9].map Ai=[Ai I9]:=rfl
 rw[he,hps,hk,hw] at h2
 rw[hw] at h3
 rw[hi,hkd] at h1
 clear he hps hk hi hkd hw
 generalize Vn=t0 at h1 h2
 generalize I9=w at h2 h3 h5
 generalize Fi=s at h2 h4
 generalize Eu=u at h4 h6
 unfold Ln
 refine Ab.go mixed Akb (by simp) fun hfit Q hQ=>?_
 clear hfit
 simp -implicitDefEqProofs[Aeo,A1]
 refine Ah h1 (by simp) (Ex _ 0) (by simp) ?_
 simp -implicitDefEqProofs[teE,Ae,Aj t0,A1]
 refine Ah h2 (by simp) (by simp) (by simp[Aj t0]) ?_
 simp -implicitDefEqProofs[An,Ak s]
 refine Ah h3 (by simp) (by simp) (by simp) ?_
 simp -implicitDefEqProofs[Aa,Ac w]
 refine Ah h5 (by simp) (by simp) (by simp[Aa,Ac w]) ?_
 simp -implicitDefEqProofs 
 refine Ah h4 (by simp) (by simp) (by simp[An,Ak s]) ?_
 simp -implicitDefEqProofs[Aa,Ac u]
 refine Ah h6 (by simp) (by simp) (by simp[Aa,Ac u]) ?_
 simp -implicitDefEqProofs 
 refine hQ _ _ _ ?_
 simp -implicitDefEqProofs 
end Go.Proofs.YtemdkfnenjpioaaGreatDoor
