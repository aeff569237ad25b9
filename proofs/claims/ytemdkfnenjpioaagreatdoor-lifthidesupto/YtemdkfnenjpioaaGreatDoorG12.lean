/- Joined: Loop Fits Data K1 K2 K3 K4 K5 K6 K8 K9 K10 K11 K12 K13 K14. -/
import Derived.Test.YtemdkfnenjpioaaGreatDoorG11
import Derived.Test.YtemdkfnenjpioaaGreatDoorG06
import Derived.Test.YtemdkfnenjpioaaGreatDoorG07
import Derived.Test.YtemdkfnenjpioaaGreatDoorG08
set_option linter.unusedSimpArgs false
set_option linter.unusedVariables false
set_option linter.unusedSectionVars false
set_option linter.all false
set_option maxHeartbeats 4000000
set_option maxRecDepth 10000
namespace Go.Proofs.YtemdkfnenjpioaaGreatDoor
open Go
variable [Cc]
def Au:List AO→List Nat
 | []=>[]
 | o :: r=>(match o.dst with | some d=>[d] | none=>[])++Au r
def AC.dsts:AC→List Nat
 | .skip=>[]
 | .region ops=>Au ops
 | .draw ops _=>Au ops
 | .seq a b=>a.dsts++b.dsts
 | .cond _ a b=>a.dsts++b.dsts
 | .block _ a=>a.dsts
 | .loop a=>a.dsts
 | .exit _=>[]
 | .ret=>[]
 | .bad=>[]
def At:List AV→List Nat→(Nat→AV)→List AV
 | t,[],_=>t
 | t,i :: r,f=>At (t.set i (f i)) r f
def Bo:List HB→List Nat→(Nat→List AV)→List HB
 | H,[],_=>H
 | H,b :: r,h=>Bo (H.set b (.var (h b))) r h
def Aq (t:List AV) (i:Nat):AV:=t.getD i .undef
def Dx (H:List HB) (b:Nat):List AV:=match H[b]? with | some (.var cs)=>cs | _=>[]
theorem Xd: ∀(ws:List Nat) (t:List AV),At t ws (Aq t)=t
 | [],_=>rfl
 | i :: r,t=>by
   have:t.set i (Aq t i)=t:=by
    unfold Aq
    rcases Nat.lt_or_ge i t.length with h | h
    · rw[List.getD_eq_getElem?_getD,List.getElem?_eq_getElem h]; simp
    · exact List.set_eq_of_length_le h
   rw[At,this]; exact Xd r t
theorem Ac5: ∀(bs:List Nat) (H:List HB),(∀ b ∈ bs,∃cs,H[b]? =some (.var cs))→Bo H bs (Dx H)=H
 | [],_,_=>rfl
 | b :: r,H,h=>by
   obtain⟨cs,hcs⟩:=h b (by simp)
   have:H.set b (.var (Dx H b))=H:=by
    have hl:=(List.getElem?_eq_some_iff.1 hcs).1
    have he:=(List.getElem?_eq_some_iff.1 hcs).2
    have hv:Dx H b=cs:=by simp[Dx,hcs]
    rw[hv,← he]
    simp
   rw[Bo,this]; exact Ac5 r H fun x hx=>h x (by simp[hx])
def Rj (t0:List AV) (ds:List Nat) (H0:List HB) (bs:List Nat) (I:Nat→(Nat→AV)→(Nat→List AV)→List HB→Prop) (n:Nat) (Q:AX→List AV→List HB→Prop):AX→List AV→List HB→Prop:=
 Lp (fun t' H'=>At t0 ds (Aq t')=t'∧∃m h' G',m < n∧H'=Bo H0 bs h'++G'∧I m (Aq t') h' G') Q
theorem AWp.loopI {P:Program} {x:AC} {t0:List AV} {H0:List HB} {Q:AX→List AV→List HB→Prop} (bs:List Nat) (I:Nat→(Nat→AV)→(Nat→List AV)→List HB→Prop) (n0:Nat)
 (hb: ∀b ∈ bs,∃cs,H0[b]? =some (.var cs)) (h0:I n0 (Aq t0) (Dx H0) [])
 (hr: ∀n f h G,I n f h G→AWp P x (At t0 x.dsts f) (Bo H0 bs h++G) (Rj t0 x.dsts H0 bs I n Q)):AWp P (.loop x) t0 H0 Q:=by
 refine AWp.loop (fun n t H=>∃f h G,t=At t0 x.dsts f∧H=Bo H0 bs h++G∧I n f h G) n0 ⟨Aq t0,Dx H0,[],(Xd _ _).symm,by rw[Ac5 bs H0 hb]; simp,h0⟩ ?_
 rintro n t H ⟨f,h,G,rfl,rfl,hI⟩
 refine AWp.mono (hr n f h G hI) ?_
 intro e t' H' hq
 cases e with
 | normal=>
   obtain⟨e1,m,h',G',hm,e2,hI'⟩:=hq
   exact⟨m,hm,Aq t',h',G',e1.symm,e2,hI'⟩
 | exit _=>exact hq
 | ret=>exact hq
theorem Cb {ds bs:List Nat} {t0 t':List AV} {H0 H':List HB} {Q:AX→List AV→List HB→Prop} {I:Nat→(Nat→AV)→(Nat→List AV)→List HB→Prop} {n:Nat} (m:Nat) (h':Nat→List AV) {G':List HB}
 (hH:H'=Bo H0 bs h'++G') (hm:m < n) (ht:At t0 ds (Aq t')=t') (hI:I m (Aq t') h' G'):
 Rj t0 ds H0 bs I n Q .normal t' H':=
 ⟨ht,m,h',G',hm,hH,hI⟩
theorem Ce {ds bs:List Nat} {t0 t':List AV} {H0 H':List HB} {Q:AX→List AV→List HB→Prop} {I:Nat→(Nat→AV)→(Nat→List AV)→List HB→Prop} {n i:Nat} (h:Q (.exit i) t' H'):Rj t0 ds H0 bs I n Q (.exit i) t' H':=h
theorem Dg {ds bs:List Nat} {t0 t':List AV} {H0 H':List HB} {Q:AX→List AV→List HB→Prop} {I:Nat→(Nat→AV)→(Nat→List AV)→List HB→Prop} {n:Nat} (h:Q .ret t' H'):Rj t0 ds H0 bs I n Q .ret t' H':=h
def owns (base:Nat) (G:List HB) (tok:Tok) (els:List (List AV)) (k:Nat):Prop:=
 (tok= .nilT∧els=[])∨∃j e,tok= .own (base+j)∧G[j]? =some (.tok els.length k e)
theorem E7 (base:Nat) (G:List HB) (k:Nat):owns base G .nilT [] k:=.inl ⟨rfl,rfl⟩
theorem E5 {base:Nat} {G L:List HB} {tok:Tok} {els:List (List AV)} {k:Nat} (h:owns base G tok els k):owns base (G++L) tok els k:=by
 rcases h with h | ⟨j,e,h1,h2⟩
 · exact .inl h
 · exact .inr ⟨j,e,h1,by rw[List.getElem?_append_left (List.getElem?_eq_some_iff.1 h2).1]; exact h2⟩
theorem Aie {e:TypeId} {A G:List HB} {tok:Tok} {els:List (List AV)} {k:Nat} {row:List AV} (h:owns A.length G tok els k) (hl:els.length+1≤A4) (hk:C0 k els=true) (hr:row.length=k):
 ∃tok' G',C7 k e tok els [row] (A++G)=some (.sl tok' (els++[row]),A++G')∧owns A.length G' tok' (els++[row]) k∧G.length≤G'.length:=by
 have hk2:C0 k [row]=true:=by simp[C0,hr]
 rcases h with⟨rfl,rfl⟩ | ⟨j,e',rfl,hj⟩
 · refine⟨.own (A++G).length,G++[.tok 1 k e],?_,?_,by simp⟩
   · simp[C7,hk,hk2,Ha,A4]
   · exact .inr ⟨G.length,e,by simp,by simp⟩
 · have hjl:=(List.getElem?_eq_some_iff.1 hj).1
   refine⟨.own (A.length+j),G.set j (.tok (els.length+1) k (if e'=e then e else 0)),?_,.inr ⟨j,(if e'=e then e else 0),rfl,?_⟩,by simp⟩
   · have hg:(A++G)[A.length+j]? =some (.tok els.length k e'):=by
      rw[List.getElem?_append_right (by omega)]; simpa using hj
     have hset:(A++G).set (A.length+j) (.tok (els.length+1) k (if e'=e then e else 0))=A++G.set j (.tok (els.length+1) k (if e'=e then e else 0)):=by
      rw[List.set_append_right _ _ (by omega)]; simp
     simp only[C7,List.length_singleton,hl,hk,hk2,and_self,if_true,hg,hset]
   · simp[List.getElem?_set_self hjl]
theorem Aye {e:TypeId} {P:Program} {A G:List HB} {tok:Tok} {els:List (List AV)} {k:Nat} {row:List AV} {dst:Option Nat} {l:List AO} {kf:List Fr} {Q:Bg} {t:List AV} (h:owns A.length G tok els k) (hl:els.length+1≤A4) (hk:C0 k els=true) (hr:row.length=k)
 (hn: ∀tok' G',owns A.length G' tok' (els++[row]) k→G.length≤G'.length→AR_ P l kf Q (Ax t dst (.sl tok' (els++[row]))) (A++G')):OPT P (C7 k e tok els [row] (A++G)) dst l kf Q t:=by
 obtain⟨tok',G',e1,e2,e3⟩:=Aie (e:=e) h hl hk hr
 rw[e1]
 exact hn tok' G' e2 e3
theorem Pm {e:TypeId} {P:Program} {V:Nat→Bool} {nq:List Nat} {H0:List HB} {n:Nat} {A G:List HB} {tok:Tok} {els:List (List AV)} {k:Nat} {row:List AV} {dst:Option Nat} {l:List AO} {kf:List Fr} {Q:Bg} {t:List AV} (h:owns A.length G tok els k) (hl:els.length+1≤A4) (hk:C0 k els=true) (hr:row.length=k)
 (hn: ∀tok' G',owns A.length G' tok' (els++[row]) k→G.length≤G'.length→DR P V nq H0 (n+1) l kf Q (Ax t dst (.sl tok' (els++[row]))) (A++G')):En P V nq H0 n (C7 k e tok els [row] (A++G)) dst l kf Q t:=by
 obtain⟨tok',G',e1,e2,e3⟩:=Aie (e:=e) h hl hk hr
 rw[e1]
 exact hn tok' G' e2 e3
theorem Ek {α :Type} {k:Nat} (f: α→List AV) (l:List α) (h: ∀x,(f x).length=k):C0 k (l.map f)=true:=by
 cases l<;>simp[C0,h]
theorem Ud {k n:Nat} {l:List (List AV)} (h:C0 k l=true):C0 k (l.take n)=true:=by
 cases l<;>cases n<;>simp_all[C0]
end Go.Proofs.YtemdkfnenjpioaaGreatDoor
namespace Go.Proofs.YtemdkfnenjpioaaGreatDoor
open Go
mutual
def AV.fits:AV→Prop
 | .int k n=>k.has n
 | .str s=>s.length≤A4
 | .sl _ els=>els.length≤A4∧R5 els
 | .eptr cs=>Bn cs
 | .agg cs=>Bn cs
 | .tup cs=>Bn cs
 | .fn _ a b=>Bn a∧Bn b
 | .iface _ v=>v.fits
 | .bool _=>True
 | .nilp=>True
 | .nilm=>True
 | .ptr _ _=>True
 | .mapv _=>True
 | .val _=>True
 | .vsl _ _=>True
 | .nilf=>True
 | .nili=>True
def Bn:List AV→Prop
 | []=>True
 | x :: xs=>x.fits∧Bn xs
def R5:List (List AV)→Prop
 | []=>True
 | x :: xs=>Bn x∧R5 xs
end
section
variable {F:Addr→Prop} {g:Gh} {w:World}
mutual
theorem Y5: ∀(x:AV) (v:Value),R F g w x v→x.fits
 | .bool _,_,_=>trivial
 | .int _ _,_,h=>(E1 h).2
 | .str _,_,h=>(Jv h).2
 | .nilp,_,_=>trivial
 | .nilm,_,_=>trivial
 | .ptr _ _,_,_=>trivial
 | .mapv _,_,_=>trivial
 | .val _,_,_=>trivial
 | .vsl _ _,_,_=>trivial
 | .nilf,_,_=>trivial
 | .nili,_,_=>trivial
 | .eptr cs,v,h=>by
   simp only[R] at h
   obtain⟨B,off,h1,h2⟩:=h
   exact Acd _ _ cs h2
 | .sl tok els,v,h=>by
   simp only[R] at h
   obtain⟨h0,h⟩:=h
   refine⟨h0,?_⟩
   rcases h with⟨h1,_⟩ | ⟨B,off,sp,cap,k,h1,h2,hk,h3,h4⟩
   · rw[h1]; trivial
   · exact Afx _ _ _ els h3
 | .fn f first cap,v,h=>by
   simp only[R] at h
   obtain⟨a1,a2,h1,h2,h3⟩:=h
   exact⟨Nc first _ h2,Nc cap _ h3⟩
 | .iface t x,v,h=>by
   simp only[R] at h
   obtain⟨u,h1,h2⟩:=h
   exact Y5 x u h2
 | .agg cs,v,h=>by
   simp only[R] at h
   obtain⟨a,h1,h2⟩:=h
   exact Nc cs _ h2
 | .tup cs,v,h=>by
   simp only[R] at h
   obtain⟨a,h1,h2⟩:=h
   exact Nc cs _ h2
theorem Nc: ∀(x:List AV) (v:List Value),RL F g w x v→Bn x
 | [],_,_=>trivial
 | x :: xs,v,h=>by
   simp only[RL] at h
   obtain⟨u,r,h1,h2,h3⟩:=h
   exact⟨Y5 x u h2,Nc xs r h3⟩
theorem Acd: ∀(B off:Nat) (x:List AV),RM F g w B off x→Bn x
 | _,_,[],_=>trivial
 | B,off,x :: xs,h=>by
   simp only[RM] at h
   obtain⟨⟨h0,v,h1,h2,h3⟩,h4⟩:=h
   exact⟨Y5 x v h3,Acd _ _ xs h4⟩
theorem Afx: ∀(B off k:Nat) (x:List (List AV)),RE F g w B off k x→R5 x
 | _,_,_,[],_=>trivial
 | B,off,k,x :: xs,h=>by
   simp only[RE] at h
   obtain⟨h1,h2,h3⟩:=h
   exact⟨Acd _ _ x h2,Afx _ _ _ xs h3⟩
end
end
theorem Ab.fits {P:Program} {f:FuncId} {args:List AV} {H H':List HB} {res:AV} (he:Gu P f=true) (h:Bn args→Ab P f args H res H'):Ab P f args H res H':=
 ⟨he,fun F g w vs hG hs hr=>(h (Nc _ _ hr)).2 F g w vs hG hs hr⟩
theorem Ab.go {P:Program} (hm:P.follows .mixedOrders=true) {f:FuncId} {ac:AC} {n:Nat} {rs:List Dv} (hf:Ad P f ac n rs) {args:List AV} {H H':List HB} {res:AV} (hl:H.length≤H'.length)
 (h:Bn args→∀Q:Bg,(∀ x t H,fin rs res H' x t H→Q x t H)→WP P ac [] Q (start args n) H):Ab P f args H res H':=
 Ab.fits hf.en fun hfit=>Ab.of hf hl (AWp.run hm (h hfit))
theorem M3 {α :Type} {f: α→List AV} {l:List α} (h:R5 (l.map f)): ∀x ∈ l,Bn (f x):=by
 induction l with
 | nil=>simp
 | cons y l ih=>
   simp only[List.map_cons,R5] at h
   intro x hx
   rcases List.mem_cons.1 hx with rfl | hx
   · exact h.1
   · exact ih h.2 x hx
end Go.Proofs.YtemdkfnenjpioaaGreatDoor
namespace Go.Proofs.YtemdkfnenjpioaaGreatDoor
open Go
inductive Kd where
 | mk (l:List Kd)
inductive Cn where
 | mk (op n:Int) (s:List UInt8) (k:Kd) (names:List (List UInt8)) (l:List Cn)
inductive Sm where
 | mk (op n:Int) (s:List UInt8) (con:Cn) (k:Kd) (ks more:List Kd) (names:List (List UInt8)) (l:List Sm)
def Kd.l:Kd→List Kd | .mk l=>l
def Cn.op:Cn→Int | .mk op _ _ _ _ _=>op
def Cn.n:Cn→Int | .mk _ n _ _ _ _=>n
def Cn.s:Cn→List UInt8 | .mk _ _ s _ _ _=>s
def Cn.k:Cn→Kd | .mk _ _ _ k _ _=>k
def Cn.names:Cn→List (List UInt8) | .mk _ _ _ _ names _=>names
def Cn.l:Cn→List Cn | .mk _ _ _ _ _ l=>l
def Af (l:List (List UInt8)):List (List AV):=l.map fun s=>[.str s]
mutual
def Ao:Kd→List AV
 | .mk l=>[.sl .none (Iw l)]
def Iw:List Kd→List (List AV)
 | []=>[]
 | k :: ks=>Ao k :: Iw ks
end
mutual
def Ai:Cn→List AV
 | .mk op n s k names l=>.int .i64 op :: .int .i64 n :: .str s :: Ao k++[.sl .none (Af names),.sl .none (J0 l)]
def J0:List Cn→List (List AV)
 | []=>[]
 | c :: cs=>Ai c :: J0 cs
end
theorem Wp (l:List Kd):Iw l=l.map Ao:=by
 induction l with
 | nil=>rfl
 | cons k l ih=>simp[Iw,ih]
theorem Zt (l:List Cn):J0 l=l.map Ai:=by
 induction l with
 | nil=>rfl
 | cons k l ih=>simp[J0,ih]
theorem Al (k:Kd):Ao k=[.sl .none (k.l.map Ao)]:=by cases k;simp[Ao,Wp,Kd.l]
theorem Ac (c:Cn):Ai c=[.int .i64 c.op,.int .i64 c.n,.str c.s,.sl .none (c.k.l.map Ao),.sl .none (Af c.names),.sl .none (c.l.map Ai)]:=by
 cases c;simp[Ai,Zt,Al,Cn.op,Cn.n,Cn.s,Cn.k,Cn.names,Cn.l]
theorem Aj3 (l:List Kd):Ao (.mk l)=[.sl .none (l.map Ao)]:=Al _
@[simp] theorem Zv (k:Kd):(Ao k).length=1:=by simp[Al]
@[simp] theorem kdCells_take (k:Kd):(Ao k).take 1=Ao k:=by simp[Al]
@[simp] theorem kdCells_all (k:Kd):(Ao k).all AV.isCell=true:=by simp[Al,AV.isCell]
@[simp] theorem Hs (c:Cn):(Ai c).length=6:=by simp[Ac]
@[simp] theorem cnCells_take (c:Cn):(Ai c).take 6=Ai c:=by simp[Ac]
@[simp] theorem Aa7 (c:Cn):(Ai c).all AV.isCell=true:=by simp[Ac,AV.isCell]
@[simp] theorem cnCells_drop (c:Cn):(Ai c).drop 6=[]:=by simp[Ac]
theorem A0z {α :Type} (f: α→List AV) (l:List α) (h: ∀x ∈ l,Ay (f x)=f x):A5 (l.map f)=l.map f:=by
 induction l with
 | nil=>rfl
 | cons x l ih=>simp[A5,h x (by simp),ih fun y hy=>h y (by simp[hy])]
theorem Aww {α :Type} {n:Nat} (f: α→List AV) (l:List α) (h: ∀x ∈ l,Am n (f x)=true):A0 n (l.map f)=true:=by
 induction l with
 | nil=>rfl
 | cons x l ih=>simp[A0,h x (by simp),ih fun y hy=>h y (by simp[hy])]
@[simp] theorem Arx (l:List (List UInt8)):A5 (Af l)=Af l:=A0z _ _ fun _ _=>rfl
@[simp] theorem A2l (n:Nat) (l:List (List UInt8)):A0 n (Af l)=true:=Aww _ _ fun _ _=>rfl
@[simp] theorem strMap_strip (l:List (List UInt8)):A5 (l.map fun s=>[AV.str s])=l.map fun s=>[AV.str s]:=Arx l
@[simp] theorem strMap_scoped (n:Nat) (l:List (List UInt8)):A0 n (l.map fun s=>[AV.str s])=true:=A2l n l
mutual
@[simp] theorem A0b: ∀k:Kd,Ay (Ao k)=Ao k
 | .mk l=>by simp[Ao,Ay,AV.strip,It l]
theorem It: ∀l:List Kd,A5 (Iw l)=Iw l
 | []=>rfl
 | k :: ks=>by simp[Iw,A5,A0b k,It ks]
end
mutual
@[simp] theorem As4 (n:Nat): ∀k:Kd,Am n (Ao k)=true
 | .mk l=>by simp[Ao,Am,AV.inScope,Ix n l]
theorem Ix (n:Nat): ∀l:List Kd,A0 n (Iw l)=true
 | []=>rfl
 | k :: ks=>by simp[Iw,A0,As4 n k,Ix n ks]
end
@[simp] theorem kdMap_strip (l:List Kd):A5 (l.map Ao)=l.map Ao:=by rw[← Wp]; exact It l
@[simp] theorem kdMap_scoped (n:Nat) (l:List Kd):A0 n (l.map Ao)=true:=by rw[← Wp]; exact Ix n l
mutual
@[simp] theorem As3: ∀c:Cn,Ay (Ai c)=Ai c
 | .mk op n s (.mk kl) names l=>by simp[Ai,Ao,Ay,AV.strip,P2 l,It kl]
theorem P2: ∀l:List Cn,A5 (J0 l)=J0 l
 | []=>rfl
 | k :: ks=>by simp[J0,A5,As3 k,P2 ks]
end
mutual
@[simp] theorem Avc (n:Nat): ∀c:Cn,Am n (Ai c)=true
 | .mk op m s (.mk kl) names l=>by simp[Ai,Ao,Am,AV.inScope,Oz n l,Ix n kl]
theorem Oz (n:Nat): ∀l:List Cn,A0 n (J0 l)=true
 | []=>rfl
 | k :: ks=>by simp[J0,A0,Avc n k,Oz n ks]
end
@[simp] theorem Yt (l:List Cn):A5 (l.map Ai)=l.map Ai:=by rw[← Zt]; exact P2 l
@[simp] theorem Ak7 (n:Nat) (l:List Cn):A0 n (l.map Ai)=true:=by rw[← Zt]; exact Oz n l
theorem Cn.lt_l {c x:Cn} (h:x ∈ c.l):SizeOf.sizeOf x < SizeOf.sizeOf c:=by
 cases c;simp only[Cn.l] at h
 have:=List.sizeOf_lt_of_mem h
 simp;omega
theorem Kd.lt_l {c x:Kd} (h:x ∈ c.l):SizeOf.sizeOf x < SizeOf.sizeOf c:=by
 cases c;simp only[Kd.l] at h
 have:=List.sizeOf_lt_of_mem h
 simp;omega
theorem Ba {n:Int} (h1: -9223372036854775808≤n) (h2:n≤9223372036854775807):IntKind.i64.wrap n=n:=by
 unfold IntKind.wrap IntKind.signed IntKind.bits;simp;omega
def Ag (k:Kd):AV:=.agg (Ao k)
def Aa (c:Cn):AV:=.agg (Ai c)
@[simp] theorem kdAV_scoped (n:Nat) (k:Kd):(Ag k).inScope n=true:=by simp[Ag,AV.inScope]
@[simp] theorem cnAV_scoped (n:Nat) (k:Cn):(Aa k).inScope n=true:=by simp[Aa,AV.inScope]
@[simp] theorem kdAV_strip (k:Kd):(Ag k).strip=Ag k:=by simp[Ag,AV.strip]
@[simp] theorem cnAV_strip (k:Cn):(Aa k).strip=Aa k:=by simp[Aa,AV.strip]
theorem Sk {k:Kd} (h:Bn (Ao k)):k.l.length≤A4∧∀x ∈ k.l,Bn (Ao x):=by
 rw[Al k] at h
 simp only[Bn,AV.fits,List.length_map] at h
 exact⟨h.1.1,M3 h.1.2⟩
theorem H8 {c:Cn} (h:Bn (Ai c)):IntKind.i64.has c.op∧IntKind.i64.has c.n∧c.s.length≤A4∧c.k.l.length≤A4∧(∀ x ∈ c.k.l,Bn (Ao x))∧c.names.length≤A4∧(∀ x ∈ c.names,x.length≤A4)∧c.l.length≤A4∧∀x ∈ c.l,Bn (Ai x):=by
 rw[Ac c] at h
 simp only[Bn,AV.fits,List.length_map,Af] at h
 obtain⟨h1,h2,h3,h4,h5,h6,_⟩:=h
 exact⟨h1,h2,h3,h4.1,M3 h4.2,h5.1,fun x hx=>by simpa[Bn,AV.fits] using M3 h5.2 x hx,h6.1,M3 h6.2⟩
end Go.Proofs.YtemdkfnenjpioaaGreatDoor
namespace Go.Proofs.YtemdkfnenjpioaaGreatDoor
open Go
attribute [local simp] Ar aev Ax A7 start AV.cells AV.undef Bc Be Bh Bj AV.isCell Bf
theorem At6 (c:Kd) (hrec: ∀x ∈ c.l,Ab Tryz.prog Ky [Ag x] [] (Ag x) []):Ab Tryz.prog Ky [Ag c] [] (Ag c) []:=by
 refine Ab.go mixed Agl (by simp) fun hfit Q hQ=>?_
 have hf:=Sk (k:=c) (by simpa[Bn,Ag,AV.fits] using hfit)
 have hln:c.l.length≤1073741824:=hf.1
 clear hfit hf
 simp -implicitDefEqProofs[Zb,Ag,Al c]
 refine B5 (AWp.loopI [2] (fun n f h G=>∃k tok,k+n=c.l.length∧f 9= .int .i64 k∧h 2=[.sl tok ((c.l.map Ao).take k)]∧owns 3 G tok ((c.l.map Ao).take k) 1) c.l.length (by simp) ⟨0,.nilT,by simp,rfl,by simp[Dx],E7 _ _ _⟩ ?_)
 rintro n f h G ⟨k,tok,hk,h9,h2,hown⟩
 refine AWp.run mixed fun Q2 hQ2=>?_
 simp -implicitDefEqProofs[AC.dsts,Au,At,Bo,h9,h2]
 by_cases hlt:k < c.l.length
 · have hrec:=hrec c.l[k] (List.getElem_mem _)
   simp -implicitDefEqProofs[hlt]
   refine C3 (by rfl) ?_
   simp -implicitDefEqProofs
   refine N5 (fun H=>hrec.lift (by simp[Ag,Am,AV.inScope]) (by simp[Ag,AV.inScope]) H) ?_
   simp -implicitDefEqProofs[Ag,A1]
   refine Pm (A:=[_,_,_]) (E5 hown) (by simp[A4]; omega) (Ud (Ek _ _ Zv)) (by simp) fun tok' G' hown' hG'=>?_
   simp -implicitDefEqProofs[Ba (n:=(k:Int)+1) (by omega) (by omega)]
   refine hQ2 _ _ _ (Cb (n - 1) (fun _=>[.sl tok' ((c.l.map Ao).take k++[Ao c.l[k]])]) rfl ?_ ?_ ?_)
   · omega
   · simp -implicitDefEqProofs[AC.dsts,Au,At,Aq]
   · have e:(c.l.map Ao).take (k+1)=(c.l.map Ao).take k++[Ao c.l[k]]:=by simp[List.take_add_one,hlt]
     refine⟨k+1,tok',by omega,by simp[Aq],by rw[e],?_⟩
     rw[e]; exact hown'
 · have hkl:(c.l.map Ao).take k=c.l.map Ao:=List.take_of_length_le (by simp;omega)
   simp -implicitDefEqProofs[hlt]
   refine hQ2 _ _ _ (Ce ?_)
   show KE _ 0 _ Q _ _
   simp -implicitDefEqProofs[hkl]
   refine hQ _ _ _ ?_
   simp -implicitDefEqProofs[fin,A9,A8,Bb,AV.strip,Ay,AV.inScope,Am,As,Ag,Al c]
theorem Z5 (c:Kd):Ab Tryz.prog Ky [Ag c] [] (Ag c) []:=At6 c fun x _=>Z5 x
termination_by SizeOf.sizeOf c
decreasing_by exact Kd.lt_l ‹_›
mutual
def Et:Kd→Int→Int→Option Int
 | .mk l,left,depth=>if left≤0∨400 < depth∨(l.length≠0∧l.length≠2) then none else Fo l left depth 1
def Fo:List Kd→Int→Int→Int→Option Int
 | [],_,_,acc=>some acc
 | x :: xs,left,depth,acc=>match Et x (left - acc) (depth+1) with
   | none=>none
   | some m=>Fo xs left depth (acc+m)
end
theorem Uj (c:Kd) (left depth:Int):Et c left depth=if left≤0∨400 < depth∨(c.l.length≠0∧c.l.length≠2) then none else Fo c.l left depth 1:=by cases c;simp[Et,Kd.l]
mutual
theorem Abx: ∀(c:Kd) (left depth n:Int),Et c left depth=some n→1≤n∧n≤left
 | .mk l,left,depth,n,h=>by
   simp only[Et] at h
   split at h
   · cases h
   · rename_i hn
     have:=Ai8 l left depth 1 n h (by omega)
     omega
theorem Ai8: ∀(l:List Kd) (left depth acc n:Int),Fo l left depth acc=some n→acc≤left→acc≤n∧n≤left
 | [],left,depth,acc,n,h,ha=>by simp only[Fo,Option.some.injEq] at h;omega
 | x :: xs,left,depth,acc,n,h,ha=>by
   simp only[Fo] at h
   split at h
   · cases h
   · rename_i m hm
     have h1:=Abx x _ _ m hm
     have h2:=Ai8 xs left depth (acc+m) n h (by omega)
     omega
end
def Gc (o:Option Int):AV:=.tup [.int .i64 (o.getD 0),.bool o.isSome]
theorem Axn (c:Kd) (left depth:Int) (hl:left≤20000) (hl0: -1≤left) (hd0:0≤depth) (hd:depth≤1000)
 (hrec: ∀x ∈ c.l,∀left depth,left≤20000→-1≤left→0≤depth→depth≤401→Ab Tryz.prog Pi [Ag x,.int .i64 left,.int .i64 depth] [] (Gc (Et x left depth)) []):
 Ab Tryz.prog Pi [Ag c,.int .i64 left,.int .i64 depth] [] (Gc (Et c left depth)) []:=by
 refine Ab.go mixed Avi (by simp) fun hfit Q hQ=>?_
 have hf:=Sk (k:=c) (by simpa[Bn,Ag,AV.fits] using hfit.1)
 have hln:c.l.length≤1073741824:=hf.1
 clear hfit hf
 simp -implicitDefEqProofs[Ajb,Ag,Al c]
 by_cases h1:left≤0
 · have e:Et c left depth=none:=by rw[Uj]; simp[h1]
   simp -implicitDefEqProofs[h1]
   refine hQ _ _ _ ?_
   simp -implicitDefEqProofs[fin,A9,A8,Bb,AV.strip,Ay,AV.inScope,Am,As,e,Gc]
 by_cases h2:400 < depth
 · have e:Et c left depth=none:=by rw[Uj]; simp[h2]
   simp -implicitDefEqProofs[h1,h2]
   refine hQ _ _ _ ?_
   simp -implicitDefEqProofs[fin,A9,A8,Bb,AV.strip,Ay,AV.inScope,Am,As,e,Gc]
 simp -implicitDefEqProofs[h1,h2]
 have key: ∀b,((c.l.length:Int) != 0)=b→(b=true→(c.l.length:Int)=2)→Et c left depth=Fo c.l left depth 1:=fun b hb h=>by
  rw[Uj,if_neg]
  cases b
  · simp only[bne_eq_false_iff_eq] at hb;omega
  · have:=h rfl;omega
 refine Dp (fun hb=>?_) (fun hb=>?_)<;>simp -implicitDefEqProofs[hb]
 refine Cl (fun hb2=>?_) (fun hb2=>?_)
 · have e:Et c left depth=none:=by
    rw[Uj,if_pos]
    simp only[bne_iff_ne,ne_eq] at hb hb2
    omega
   simp -implicitDefEqProofs
   refine hQ _ _ _ ?_
   simp -implicitDefEqProofs[fin,A9,A8,Bb,AV.strip,Ay,AV.inScope,Am,As,e,Gc]
 · have key:=key _ hb (fun _=>by simpa only[bne_eq_false_iff_eq] using hb2)
   simp -implicitDefEqProofs
   refine B5 (AWp.loopI [] (fun n f h G=>∃(k:Nat) (acc:Int),k+n=c.l.length∧f 34= .int .i64 k∧f 8= .int .i64 acc∧1≤acc∧acc≤left∧Fo (c.l.drop k) left depth acc=Fo c.l left depth 1) c.l.length (by simp) ⟨0,1,by simp,rfl,rfl,by omega,by omega,by simp⟩ ?_)
   rintro n f h G ⟨k,acc,hk,h34,h8,ha1,hal,hs⟩
   refine AWp.run mixed fun Q2 hQ2=>?_
   simp -implicitDefEqProofs[AC.dsts,Au,At,Bo,h34,h8]
   by_cases hlt:k < c.l.length
   · have hd:=List.drop_eq_getElem_cons hlt
     have hrec:=hrec c.l[k] (List.getElem_mem _) (left - acc) (depth+1) (by omega) (by omega) (by omega) (by omega)
     simp -implicitDefEqProofs[hlt,Ba (n:=left - acc) (by omega) (by omega),Ba (n:=depth+1) (by omega) (by omega)]
     refine Br (hrec.lift (by simp[Ag,Am,AV.inScope]) (by simp[Gc,AV.inScope,Am]) _) ?_
     simp -implicitDefEqProofs[Gc]
     cases hm:Et c.l[k] (left - acc) (depth+1) with
     | none=>
       have e:Et c left depth=none:=by rw[key,← hs,hd]; simp[Fo,hm]
       simp -implicitDefEqProofs
       refine hQ2 _ _ _ (Dg ?_)
       show KR _ _ Q _ _
       simp -implicitDefEqProofs
       refine hQ _ _ _ ?_
       simp -implicitDefEqProofs[fin,A9,A8,Bb,AV.strip,Ay,AV.inScope,Am,As,e,Gc]
     | some m=>
       have hm2:=Abx _ _ _ _ hm
       simp -implicitDefEqProofs[Ba (n:=(k:Int)+1) (by omega) (by omega),Ba (n:=acc+m) (by omega) (by omega)]
       refine hQ2 _ _ _ (Cb (n - 1) h rfl ?_ ?_ ?_)
       · omega
       · simp -implicitDefEqProofs[AC.dsts,Au,At,Aq]
       · refine⟨k+1,acc+m,by omega,by simp[Aq],by simp[Aq],by omega,by omega,?_⟩
         rw[← hs,hd]; simp[Fo,hm]
   · have e:Et c left depth=some acc:=by
      rw[key,← hs,List.drop_eq_nil_of_le (by omega)]; simp[Fo]
     simp -implicitDefEqProofs[hlt]
     refine hQ2 _ _ _ (Ce ?_)
     show KE _ 0 _ Q _ _
     simp -implicitDefEqProofs
     refine hQ _ _ _ ?_
     simp -implicitDefEqProofs[fin,A9,A8,Bb,AV.strip,Ay,AV.inScope,Am,As,e,Gc]
 · have key:=key _ hb (by simp)
   refine B5 (AWp.loopI [] (fun n f h G=>∃(k:Nat) (acc:Int),k+n=c.l.length∧f 34= .int .i64 k∧f 8= .int .i64 acc∧1≤acc∧acc≤left∧Fo (c.l.drop k) left depth acc=Fo c.l left depth 1) c.l.length (by simp) ⟨0,1,by simp,rfl,rfl,by omega,by omega,by simp⟩ ?_)
   rintro n f h G ⟨k,acc,hk,h34,h8,ha1,hal,hs⟩
   refine AWp.run mixed fun Q2 hQ2=>?_
   simp -implicitDefEqProofs[AC.dsts,Au,At,Bo,h34,h8]
   by_cases hlt:k < c.l.length
   · have hd:=List.drop_eq_getElem_cons hlt
     have hrec:=hrec c.l[k] (List.getElem_mem _) (left - acc) (depth+1) (by omega) (by omega) (by omega) (by omega)
     simp -implicitDefEqProofs[hlt,Ba (n:=left - acc) (by omega) (by omega),Ba (n:=depth+1) (by omega) (by omega)]
     refine Br (hrec.lift (by simp[Ag,Am,AV.inScope]) (by simp[Gc,AV.inScope,Am]) _) ?_
     simp -implicitDefEqProofs[Gc]
     cases hm:Et c.l[k] (left - acc) (depth+1) with
     | none=>
       have e:Et c left depth=none:=by rw[key,← hs,hd]; simp[Fo,hm]
       simp -implicitDefEqProofs
       refine hQ2 _ _ _ (Dg ?_)
       show KR _ _ Q _ _
       simp -implicitDefEqProofs
       refine hQ _ _ _ ?_
       simp -implicitDefEqProofs[fin,A9,A8,Bb,AV.strip,Ay,AV.inScope,Am,As,e,Gc]
     | some m=>
       have hm2:=Abx _ _ _ _ hm
       simp -implicitDefEqProofs[Ba (n:=(k:Int)+1) (by omega) (by omega),Ba (n:=acc+m) (by omega) (by omega)]
       refine hQ2 _ _ _ (Cb (n - 1) h rfl ?_ ?_ ?_)
       · omega
       · simp -implicitDefEqProofs[AC.dsts,Au,At,Aq]
       · refine⟨k+1,acc+m,by omega,by simp[Aq],by simp[Aq],by omega,by omega,?_⟩
         rw[← hs,hd]; simp[Fo,hm]
   · have e:Et c left depth=some acc:=by
      rw[key,← hs,List.drop_eq_nil_of_le (by omega)]; simp[Fo]
     simp -implicitDefEqProofs[hlt]
     refine hQ2 _ _ _ (Ce ?_)
     show KE _ 0 _ Q _ _
     simp -implicitDefEqProofs
     refine hQ _ _ _ ?_
     simp -implicitDefEqProofs[fin,A9,A8,Bb,AV.strip,Ay,AV.inScope,Am,As,e,Gc]
theorem Aoo (c:Kd) (left depth:Int) (hl:left≤20000) (hl0: -1≤left) (hd0:0≤depth) (hd:depth≤1000):Ab Tryz.prog Pi [Ag c,.int .i64 left,.int .i64 depth] [] (Gc (Et c left depth)) []:=
 Axn c left depth hl hl0 hd0 hd fun x _ left depth h1 h2 h3 h4=>Aoo x left depth h1 h2 h3 (by omega)
termination_by SizeOf.sizeOf c
decreasing_by exact Kd.lt_l ‹_›
end Go.Proofs.YtemdkfnenjpioaaGreatDoor
namespace Go.Proofs.YtemdkfnenjpioaaGreatDoor
open Go
attribute [local simp] Ar aev Ax A7 start AV.cells AV.undef Bc Be Bh Bj AV.isCell Bf
def Cz {α :Type} (p: α→Bool):List α→Nat→Int
 | [],_=>-1
 | x :: xs,i=>if p x then i else Cz p xs (i+1)
theorem So {α :Type} (p: α→Bool): ∀(l:List α) (i:Nat),decide (0≤Cz p l i)=l.any p
 | [],i=>by simp[Cz]
 | x :: xs,i=>by
   have:=So p xs (i+1)
   cases h:p x<;>simp[Cz,h,this]
theorem A0m (l:List Kd) (p:Kd→Bool) (n:Nat) (hp: ∀x ∈ l,Ab Tryz.prog n [Ag x] [] (.bool (p x)) []):
 Ab Tryz.prog Ok [.sl .none (l.map Ao),.fn (.func n) [] []] [] (.int .i64 (Cz p l 0)) []:=by
 refine Ab.go mixed Abi (by simp) fun hfit Q hQ=>?_
 have hln:l.length≤1073741824:=by simpa[Bn,AV.fits,A4] using hfit.1.1
 clear hfit
 simp -implicitDefEqProofs[Xu]
 refine B5 (AWp.loopI [] (fun n f h G=>∃k:Nat,k+n=l.length∧f 8= .int .i64 k∧Cz p (l.drop k) k=Cz p l 0) l.length (by simp) ⟨0,by simp,rfl,by simp⟩ ?_)
 rintro n f h G ⟨k,hk,h8,hs⟩
 refine AWp.run mixed fun Q2 hQ2=>?_
 simp -implicitDefEqProofs[AC.dsts,Au,At,Bo,h8]
 by_cases hlt:k < l.length
 · have hd:=List.drop_eq_getElem_cons hlt
   have hp:=hp l[k] (List.getElem_mem _)
   simp -implicitDefEqProofs[hlt]
   refine Br (hp.lift (by simp[Ag,Am,AV.inScope]) (by simp[AV.inScope]) _) ?_
   simp -implicitDefEqProofs
   refine Cl (fun hb=>?_) (fun hb=>?_)
   · have e:Cz p l 0=k:=by rw[← hs,hd]; simp[Cz,hb]
     simp -implicitDefEqProofs
     refine hQ2 _ _ _ (Dg ?_)
     show KR _ _ Q _ _
     simp -implicitDefEqProofs
     refine hQ _ _ _ ?_
     simp -implicitDefEqProofs[fin,A9,A8,Bb,AV.strip,Ay,AV.inScope,Am,As,e]
   · simp -implicitDefEqProofs[Ba (n:=(k:Int)+1) (by omega) (by omega)]
     refine hQ2 _ _ _ (Cb (n - 1) h rfl ?_ ?_ ?_)
     · omega
     · simp -implicitDefEqProofs[AC.dsts,Au,At,Aq]
     · refine⟨k+1,by omega,by simp[Aq],?_⟩
       rw[← hs,hd]; simp[Cz,hb]
 · have e:Cz p l 0= -1:=by rw[← hs,List.drop_eq_nil_of_le (by omega)]; simp[Cz]
   simp -implicitDefEqProofs[hlt]
   refine hQ2 _ _ _ (Ce ?_)
   show KE _ 0 _ Q _ _
   simp -implicitDefEqProofs
   refine hQ _ _ _ ?_
   simp -implicitDefEqProofs[fin,A9,A8,Bb,AV.strip,Ay,AV.inScope,Am,As,e]
theorem Aer (l:List Kd) (p:Kd→Bool) (n:Nat) (hp: ∀x ∈ l,Ab Tryz.prog n [Ag x] [] (.bool (p x)) []):
 Ab Tryz.prog Jb [.sl .none (l.map Ao),.fn (.func n) [] []] [] (.bool (l.any p)) []:=by
 refine Ab.go mixed Abc (by simp) fun hfit Q hQ=>?_
 clear hfit
 simp -implicitDefEqProofs[U9]
 refine Br ((A0m l p n hp).lift (by simp[Am,AV.inScope]) (by simp[AV.inScope]) _) ?_
 simp -implicitDefEqProofs
 refine hQ _ _ _ ?_
 simp -implicitDefEqProofs[fin,A9,A8,Bb,AV.strip,Ay,AV.inScope,Am,As,So]
def Ee (c:Kd):Bool:=(Et c 20000 1).isSome
theorem Nm (c:Kd):Ab Tryz.prog Fv [Ag c] [] (.bool (Ee c)) []:=by
 refine Ab.go mixed Ayx (by simp) fun hfit Q hQ=>?_
 clear hfit
 simp -implicitDefEqProofs[Am7,Ag]
 refine Br ((Aoo c 20000 1 (by omega) (by omega) (by omega) (by omega)).lift (by simp[Ag,Am,AV.inScope]) (by simp[Gc,AV.inScope,Am]) _) ?_
 simp -implicitDefEqProofs[Gc]
 refine hQ _ _ _ ?_
 simp -implicitDefEqProofs[fin,A9,A8,Bb,AV.strip,Ay,AV.inScope,Am,As,Ee]
theorem Awd (c:Kd):Ab Tryz.prog Aaw [Ag c] [] (.bool !Ee c) []:=by
 refine Ab.go mixed Avd (by simp) fun hfit Q hQ=>?_
 clear hfit
 simp -implicitDefEqProofs[Ali,Ag]
 refine Br ((Nm c).lift (by simp[Ag,Am,AV.inScope]) (by simp[AV.inScope,Am]) _) ?_
 simp -implicitDefEqProofs
 refine hQ _ _ _ ?_
 simp -implicitDefEqProofs[fin,A9,A8,Bb,AV.strip,Ay,AV.inScope,Am,As]
theorem Mt (l:List Kd):Ab Tryz.prog Ue [.sl .none (l.map Ao)] [] (.bool (l.all Ee)) []:=by
 refine Ab.go mixed A2z (by simp) fun hfit Q hQ=>?_
 clear hfit
 simp -implicitDefEqProofs[Am0]
 refine Br ((Aer l _ _ fun x _=>Awd x).lift (by simp[Am,AV.inScope]) (by simp[AV.inScope,Am]) _) ?_
 simp -implicitDefEqProofs
 refine hQ _ _ _ ?_
 simp -implicitDefEqProofs[fin,A9,A8,Bb,AV.strip,Ay,AV.inScope,Am,As,List.all_eq_not_any_not]
end Go.Proofs.YtemdkfnenjpioaaGreatDoor
namespace Go.Proofs.YtemdkfnenjpioaaGreatDoor
open Go
attribute [local simp] Ar aev Ax A7 start AV.cells AV.undef Bc Be Bh Bl Bj AV.isCell Bf A1 Bi
attribute [local simp] fin A9 A8 Bb AV.strip Ay A5 AV.inScope Am A0 As
def To (a b:Kd):Kd:=.mk [a,b]
theorem A2w (a:Kd):Ab Tryz.prog N7 [Ag a] [] (Ag (To a (.mk []))) []:=by
 refine Ab.go mixed Apk (by simp) fun hfit Q hQ=>?_
 clear hfit
 simp -implicitDefEqProofs[Zm,Ag]
 refine Ah (Z5 a) (by simp) (by simp) (by simp[Ag,Aa,Ac,Al,Af,Kd.l]) ?_
 simp -implicitDefEqProofs[Ag]
 refine hQ _ _ _ ?_
 simp -implicitDefEqProofs[Ag,Aj3,To]
def Ej (l:List Kd):Bool:=decide (l.length≤1000) && l.all Ee
theorem A1e (c:Kd):Ab Tryz.prog Sf [Ag c] [] (.bool !Ee c) []:=by
 refine Ab.go mixed Af4 (by simp) fun hfit Q hQ=>?_
 clear hfit
 simp -implicitDefEqProofs[Aax,Ag]
 refine Ah (Nm c) (by simp) (by simp) (by simp[Ag,Aa,Ac,Al,Af,Kd.l]) ?_
 simp -implicitDefEqProofs
 refine hQ _ _ _ ?_
 simp -implicitDefEqProofs
theorem Aak (l:List Kd):Ab Tryz.prog Nq [.sl .none (l.map Ao)] [] (.bool (Ej l)) []:=by
 refine Ab.go mixed Apg (by simp) fun hfit Q hQ=>?_
 clear hfit
 simp -implicitDefEqProofs[Ze]
 by_cases h:l.length≤1000
 · have h':(l.length:Int)≤1000:=by omega
   simp -implicitDefEqProofs[h,h']
   refine Ah (Aer l _ _ fun x _=>A1e x) (by simp) (by simp) (by simp[Ag,Aa,Ac,Al,Af,Kd.l]) ?_
   simp -implicitDefEqProofs
   refine hQ _ _ _ ?_
   simp -implicitDefEqProofs[Ej,h,List.all_eq_not_any_not]
 · have h': ¬(l.length:Int)≤1000:=by omega
   simp -implicitDefEqProofs[h,h']
   refine hQ _ _ _ ?_
   simp -implicitDefEqProofs[Ej,h]
def Bt {α β :Type} (p: α→β→Bool):List α→List β→Bool
 | [],[]=>true
 | x :: xs,y :: ys=>p x y && Bt p xs ys
 | _,_=>false
theorem Jt {α β :Type} (p: α→β→Bool): ∀(a:List α) (b:List β),a.length≠b.length→Bt p a b=false
 | [],[],h=>by simp at h
 | x :: xs,y :: ys,h=>by simp[Bt,Jt p xs ys (by simpa using h)]
 | [],_ :: _,_=>rfl
 | _ :: _,[],_=>rfl
mutual
def kEq:Kd→Kd→Bool
 | .mk a,.mk b=>J8 a b
def J8:List Kd→List Kd→Bool
 | [],[]=>true
 | x :: xs,y :: ys=>kEq x y && J8 xs ys
 | [],_ :: _=>false
 | _ :: _,[]=>false
end
theorem Ao1: ∀(a b:List Kd),J8 a b=Bt kEq a b
 | [],[]=>by simp[J8,Bt]
 | x :: xs,y :: ys=>by simp[J8,Bt,Ao1 xs ys]
 | [],_ :: _=>by simp[J8,Bt]
 | _ :: _,[]=>by simp[J8,Bt]
theorem Adx (a b:Kd):kEq a b=Bt kEq a.l b.l:=by cases a;cases b;simp[kEq,Ao1,Kd.l]
theorem Ato (a b:Kd) (hrec: ∀x ∈ a.l,∀y,Ab Tryz.prog J9 [Ag x,Ag y] [] (.bool (kEq x y)) []):
 Ab Tryz.prog J9 [Ag a,Ag b] [] (.bool (kEq a b)) []:=by
 refine Ab.go mixed Ays (by simp) fun hfit Q hQ=>?_
 have hln:a.l.length≤1073741824:=(Sk (k:=a) (by simpa[Bn,Ag,AV.fits] using hfit.1)).1
 clear hfit
 simp -implicitDefEqProofs[Ae9,Ag,Al a,Al b]
 refine Cl (fun hb=>?_) (fun hb=>?_)
 · have e:kEq a b=false:=by rw[Adx]; exact Jt _ _ _ (by simp at hb;omega)
   simp -implicitDefEqProofs
   refine hQ _ _ _ ?_
   simp -implicitDefEqProofs[e]
 have hab:a.l.length=b.l.length:=by simp at hb;omega
 simp -implicitDefEqProofs
 refine B5 (AWp.loopI [] (fun n f h G=>∃k:Nat,k+n=a.l.length∧f 5= .int .i64 k∧Bt kEq (a.l.drop k) (b.l.drop k)=kEq a b) (a.l.length) (by simp) ⟨0,by simp,rfl,by simp[Adx]⟩ ?_)
 rintro n f h G ⟨k,hk,h5,hs⟩
 refine AWp.run mixed fun Q2 hQ2=>?_
 simp -implicitDefEqProofs[AC.dsts,Au,At,Bo,h5]
 by_cases hlt:k < a.l.length
 · have hlt2:k < b.l.length:=by omega
   have hd:=List.drop_eq_getElem_cons hlt
   have hd2:=List.drop_eq_getElem_cons hlt2
   simp -implicitDefEqProofs[hlt]
   refine C3 (by rfl) ?_
   simp -implicitDefEqProofs[hlt,hlt2]
   refine Bp (hrec a.l[k] (List.getElem_mem _) b.l[k]) (by simp) (by simp) (by simp[Ag,Aa,Ac,Al,Af,Kd.l]) ?_
   simp -implicitDefEqProofs
   cases hv:kEq a.l[k] b.l[k]
   · have e:kEq a b=false:=by rw[← hs,hd,hd2]; simp[Bt,hv]
     simp -implicitDefEqProofs
     refine hQ2 _ _ _ (Dg ?_)
     show KR _ _ Q _ _
     simp -implicitDefEqProofs
     refine hQ _ _ _ ?_
     simp -implicitDefEqProofs[e]
   · simp -implicitDefEqProofs[Ba (n:=(k:Int)+1) (by omega) (by omega)]
     refine hQ2 _ _ _ (Cb (n - 1) (h) rfl (by omega) (by simp -implicitDefEqProofs[AC.dsts,Au,At,Aq]) ?_)
     refine⟨k+1,by omega,by simp[Aq],?_⟩
     rw[← hs,hd,hd2]; simp[Bt,hv]
 · have e:kEq a b=true:=by rw[← hs,List.drop_eq_nil_of_le (by omega),List.drop_eq_nil_of_le (by omega)]; simp[Bt]
   simp -implicitDefEqProofs[hlt]
   refine hQ2 _ _ _ (Ce ?_)
   show KE _ 0 _ Q _ _
   simp -implicitDefEqProofs
   refine hQ _ _ _ ?_
   simp -implicitDefEqProofs[e]
theorem Ql (a b:Kd):Ab Tryz.prog J9 [Ag a,Ag b] [] (.bool (kEq a b)) []:=
 Ato a b fun x _ y=>Ql x y
termination_by SizeOf.sizeOf a
decreasing_by exact Kd.lt_l ‹_›
end Go.Proofs.YtemdkfnenjpioaaGreatDoor
namespace Go.Proofs.YtemdkfnenjpioaaGreatDoor
open Go
attribute [local simp] Ar aev Ax A7 start AV.cells AV.undef Bc Be Bh Bl Bj AV.isCell Bf A1 Bi
attribute [local simp] fin A9 A8 Bb AV.strip Ay A5 AV.inScope Am A0 As
theorem Az2 (a b:List Kd) (p:Kd→Kd→Bool) (m:Nat) (hp: ∀x ∈ a,∀y,Ab Tryz.prog m [Ag x,Ag y] [] (.bool (p x y)) []):
 Ab Tryz.prog Q7 [.sl .none (a.map Ao),.sl .none (b.map Ao),.fn (.func m) [] []] [] (.bool (Bt p a b)) []:=by
 refine Ab.go mixed Apv (by simp) fun hfit Q hQ=>?_
 have hln:a.length≤1073741824:=by simpa[Bn,AV.fits,A4] using hfit.1.1
 clear hfit
 simp -implicitDefEqProofs[Ac3]
 refine Cl (fun hb=>?_) (fun hb=>?_)
 · have e:Bt p a b=false:=Jt _ _ _ (by simp at hb;omega)
   simp -implicitDefEqProofs
   refine hQ _ _ _ ?_
   simp -implicitDefEqProofs[e]
 have hab:a.length=b.length:=by simp at hb;omega
 simp -implicitDefEqProofs
 refine B5 (AWp.loopI [] (fun n f h G=>∃k:Nat,k+n=a.length∧f 17= .int .i64 k∧Bt p (a.drop k) (b.drop k)=Bt p a b) (a.length) (by simp) ⟨0,by simp,rfl,by simp⟩ ?_)
 rintro n f h G ⟨k,hk,h17,hs⟩
 refine AWp.run mixed fun Q2 hQ2=>?_
 simp -implicitDefEqProofs[AC.dsts,Au,At,Bo,h17]
 by_cases hlt:k < a.length
 · have hlt2:k < b.length:=by omega
   have hd:=List.drop_eq_getElem_cons hlt
   have hd2:=List.drop_eq_getElem_cons hlt2
   simp -implicitDefEqProofs[hlt,hlt2]
   refine Ah (hp a[k] (List.getElem_mem _) b[k]) (by simp) (by simp) (by simp[Ag,Aa,Ac,Al,Af,Kd.l]) ?_
   simp -implicitDefEqProofs
   cases hv:p a[k] b[k]
   · have e:Bt p a b=false:=by rw[← hs,hd,hd2]; simp[Bt,hv]
     simp -implicitDefEqProofs
     refine hQ2 _ _ _ (Dg ?_)
     show KR _ _ Q _ _
     simp -implicitDefEqProofs
     refine hQ _ _ _ ?_
     simp -implicitDefEqProofs[e]
   · simp -implicitDefEqProofs[Ba (n:=(k:Int)+1) (by omega) (by omega)]
     refine hQ2 _ _ _ (Cb (n - 1) (h) rfl (by omega) (by simp -implicitDefEqProofs[AC.dsts,Au,At,Aq]) ?_)
     refine⟨k+1,by omega,by simp[Aq],?_⟩
     rw[← hs,hd,hd2]; simp[Bt,hv]
 · have e:Bt p a b=true:=by rw[← hs,List.drop_eq_nil_of_le (by omega),List.drop_eq_nil_of_le (by omega)]; simp[Bt]
   simp -implicitDefEqProofs[hlt]
   refine hQ2 _ _ _ (Ce ?_)
   show KE _ 0 _ Q _ _
   simp -implicitDefEqProofs
   refine hQ _ _ _ ?_
   simp -implicitDefEqProofs[e]
theorem Awj (a b:Kd) (hrec: ∀x ∈ a.l,∀y,Ab Tryz.prog Lf [Ag x,Ag y] [] (.bool (kEq x y)) []):
 Ab Tryz.prog Lf [Ag a,Ag b] [] (.bool (kEq a b)) []:=by
 refine Ab.go mixed Akm (by simp) fun hfit Q hQ=>?_
 clear hfit
 simp -implicitDefEqProofs[Aaf,Ag,Al a,Al b]
 refine Ah (Az2 a.l b.l kEq _ hrec) (by simp) (by simp) (by simp[Ag,Aa,Ac,Al,Af,Kd.l]) ?_
 simp -implicitDefEqProofs
 refine hQ _ _ _ ?_
 simp -implicitDefEqProofs[Adx a b]
theorem Alf (a b:Kd):Ab Tryz.prog Lf [Ag a,Ag b] [] (.bool (kEq a b)) []:=
 Awj a b fun x _ y=>Alf x y
termination_by SizeOf.sizeOf a
decreasing_by exact Kd.lt_l ‹_›
def cls (n:Int):Int:=
 if 97≤n∧n≤122 then 1 else if 65≤n∧n≤90 then 2 else if 48≤n∧n≤57 then 3 else if n=95 then 4 else if n=46 then 5 else 0
theorem T1 (n:Int):Ab Tryz.prog L1 [.int .u8 n] [] (.int .i64 (cls n)) []:=by
 refine Ab.go mixed Ape (by simp) fun hfit Q hQ=>?_
 clear hfit
 simp -implicitDefEqProofs[Adc]
 by_cases h1:97≤n
 · by_cases h2:n≤122
   · simp -implicitDefEqProofs[h1,h2]
     refine hQ _ _ _ ?_
     simp -implicitDefEqProofs[cls,h1,h2]
   · have h3:65≤n:=by omega
     have h4: ¬n≤90:=by omega
     have h5:48≤n:=by omega
     have h6: ¬n≤57:=by omega
     have h7: ¬n=95:=by omega
     have h8: ¬n=46:=by omega
     simp -implicitDefEqProofs[h1,h2,h3,h4,h5,h6,h7,h8,beq_eq_false_iff_ne.2 h7,beq_eq_false_iff_ne.2 h8]
     refine hQ _ _ _ ?_
     simp -implicitDefEqProofs[cls,h1,h2,h3,h4,h5,h6,h7,h8]
 have c1: ¬(97≤n∧n≤122):=by omega
 by_cases h3:65≤n
 · by_cases h4:n≤90
   · simp -implicitDefEqProofs[h1,h3,h4]
     refine hQ _ _ _ ?_
     simp -implicitDefEqProofs[cls,h1,h3,h4]
   · have h5:48≤n:=by omega
     have h6: ¬n≤57:=by omega
     have h8: ¬n=46:=by omega
     by_cases h7:n=95
     · simp -implicitDefEqProofs[h1,h3,h4,h5,h6,h8,beq_iff_eq.2 h7]
       refine hQ _ _ _ ?_
       simp -implicitDefEqProofs[cls,h1,h3,h4,h5,h6,h7]
     · simp -implicitDefEqProofs[h1,h3,h4,h5,h6,h8,beq_eq_false_iff_ne.2 h7,beq_eq_false_iff_ne.2 h8]
       refine hQ _ _ _ ?_
       simp -implicitDefEqProofs[cls,h1,h3,h4,h5,h6,h7,h8]
 have h7: ¬n=95:=by omega
 by_cases h5:48≤n
 · by_cases h6:n≤57
   · simp -implicitDefEqProofs[h1,h3,h5,h6]
     refine hQ _ _ _ ?_
     simp -implicitDefEqProofs[cls,h1,h3,h5,h6]
   · have h8: ¬n=46:=by omega
     simp -implicitDefEqProofs[h1,h3,h5,h6,beq_eq_false_iff_ne.2 h7,beq_eq_false_iff_ne.2 h8]
     refine hQ _ _ _ ?_
     simp -implicitDefEqProofs[cls,h1,h3,h5,h6,h7,h8]
 by_cases h8:n=46
 · simp -implicitDefEqProofs[h1,h3,h5,beq_eq_false_iff_ne.2 h7,beq_iff_eq.2 h8]
   refine hQ _ _ _ ?_
   simp -implicitDefEqProofs[cls,h1,h3,h5,h7,h8]
 · simp -implicitDefEqProofs[h1,h3,h5,beq_eq_false_iff_ne.2 h7,beq_eq_false_iff_ne.2 h8]
   refine hQ _ _ _ ?_
   simp -implicitDefEqProofs[cls,h1,h3,h5,h7,h8]
def Pe (n:Int):Bool:=!(cls n == 0 || cls n == 5)
theorem Ars (n:Int):cls n=0∨cls n=1∨cls n=2∨cls n=3∨cls n=4∨cls n=5:=by unfold cls;(repeat' split)<;>omega
def Vq (s:List UInt8):Bool:=decide (1≤s.length) && decide (s.length≤24) && s.all fun c=>Pe c.toNat
def E8 (s:List UInt8) (k:Int):Bool:=Vq s && (cls ((s.headD 0).toNat) == k)
def Ez (s:List UInt8):Bool:=decide (1≤s.length) && decide (s.length≤48) && s.all fun c=>!(cls c.toNat == 0)
theorem Aoz {s:List UInt8} (h:0 < s.length):s.headD 0=s[0]:=by cases s with | nil=>simp at h | cons=>rfl
theorem Apu (s:List UInt8) (q:Int):Ab Tryz.prog Pp [.str s,.int .i64 q] [] (.bool (E8 s q)) []:=by
 refine Ab.go mixed Ap0 (by simp) fun hfit Q hQ=>?_
 have hln:s.length≤1073741824:=by simpa[Bn,AV.fits,A4] using hfit.1
 clear hfit
 simp -implicitDefEqProofs[Adp]
 by_cases h1:s=[]
 · have e:E8 s q=false:=by subst h1;simp[E8,Vq]
   simp -implicitDefEqProofs[h1]
   refine hQ _ _ _ ?_
   simp -implicitDefEqProofs[e]
 have hpos:0 < s.length:=List.length_pos_iff.2 h1
 have hne:(s == ([]:List UInt8))=false:=by simpa using h1
 have hhd:=Aoz hpos
 have hw1:(1≤s.length)=True:=by simp;omega
 have hne2:s.isEmpty=false:=by simpa using h1
 simp -implicitDefEqProofs[hne,hne2]
 by_cases h2:s.length≤24
 · have h2': ¬(24:Int) < (s.length:Int):=by omega
   simp -implicitDefEqProofs[h2',hpos]
   refine Ah (T1 s[0].toNat) (by simp) (by simp) (by simp[Ag,Aa,Ac,Al,Af,Kd.l]) ?_
   simp -implicitDefEqProofs
   refine Cl (fun hq=>?_) (fun hq=>?_)
   · have e:E8 s q=false:=by
      simp only[E8,hhd,Bool.and_eq_false_iff]; right;simpa using hq
     simp -implicitDefEqProofs
     refine hQ _ _ _ ?_
     simp -implicitDefEqProofs[e]
   have key:E8 s q=s.all fun c=>Pe c.toNat:=by
    have hq':(cls s[0].toNat == q)=true:=by simpa using hq
    simp only[E8,hhd,hq',Vq,hw1,h2]; simp
   simp -implicitDefEqProofs
   refine B5 (AWp.loopI [] (fun n f h G=>∃k:Nat,k+n=s.length∧f 25= .int .i64 k∧((s.drop k).all fun c=>Pe c.toNat)=(s.all fun c=>Pe c.toNat)) (s.length) (by simp) ⟨0,by simp,rfl,by simp⟩ ?_)
   rintro n f h G ⟨k,hk,h25,hs⟩
   refine AWp.run mixed fun Q2 hQ2=>?_
   simp -implicitDefEqProofs[AC.dsts,Au,At,Bo,h25]
   by_cases hlt:k < s.length
   · have hd:=List.drop_eq_getElem_cons hlt
     simp -implicitDefEqProofs[hlt]
     refine Ah (T1 s[k].toNat) (by simp) (by simp) (by simp[Ag,Aa,Ac,Al,Af,Kd.l]) ?_
     simp -implicitDefEqProofs
     rcases Ars s[k].toNat with hc | hc | hc | hc | hc | hc
     all_goals
      simp -implicitDefEqProofs[hc,Ba (n:=(k:Int)+1) (by omega) (by omega)]
      first
       | refine hQ2 _ _ _ (Dg ?_)
         have e:E8 s q=false:=by rw[key,← hs,hd,List.all_cons]; simp[Pe,hc]
         show KR _ _ Q _ _
         simp -implicitDefEqProofs
         refine hQ _ _ _ ?_
         simp -implicitDefEqProofs[e]
       | refine hQ2 _ _ _ (Cb (n - 1) (h) rfl (by omega) (by simp -implicitDefEqProofs[AC.dsts,Au,At,Aq]) ?_)
         refine⟨k+1,by omega,by simp[Aq],?_⟩
         rw[← hs,hd,List.all_cons]; simp[Pe,hc]
   · have e:E8 s q=true:=by rw[key,← hs,List.drop_eq_nil_of_le (by omega)]; simp
     simp -implicitDefEqProofs[hlt]
     refine hQ2 _ _ _ (Ce ?_)
     show KE _ 0 _ Q _ _
     simp -implicitDefEqProofs
     refine hQ _ _ _ ?_
     simp -implicitDefEqProofs[e]
 · have h2':(24:Int) < (s.length:Int):=by omega
   have e:E8 s q=false:=by simp[E8,Vq,h2]
   simp -implicitDefEqProofs[h2']
   refine hQ _ _ _ ?_
   simp -implicitDefEqProofs[e]
theorem Ads (s:List UInt8):Ab Tryz.prog Nk [.str s] [] (.bool (E8 s 2)) []:=by
 refine Ab.go mixed Aok (by simp) fun hfit Q hQ=>?_
 clear hfit
 simp -implicitDefEqProofs[Z2]
 refine Ah (Apu s 2) (by simp) (by simp) (by simp[Ag,Aa,Ac,Al,Af,Kd.l]) ?_
 simp -implicitDefEqProofs
 refine hQ _ _ _ ?_
 simp -implicitDefEqProofs
theorem Ua (s:List UInt8):Ab Tryz.prog Mo [.str s] [] (.bool (Ez s)) []:=by
 refine Ab.go mixed Aov (by simp) fun hfit Q hQ=>?_
 have hln:s.length≤1073741824:=by simpa[Bn,AV.fits,A4] using hfit
 clear hfit
 simp -implicitDefEqProofs[Aa3]
 by_cases h1:s=[]
 · have e:Ez s=false:=by subst h1;simp[Ez]
   simp -implicitDefEqProofs[h1]
   refine hQ _ _ _ ?_
   simp -implicitDefEqProofs[e]
 have hpos:0 < s.length:=List.length_pos_iff.2 h1
 have hne:(s == ([]:List UInt8))=false:=by simpa using h1
 have hne2:s.isEmpty=false:=by simpa using h1
 have hw1:(1≤s.length)=True:=by simp;omega
 simp -implicitDefEqProofs[hne,hne2]
 by_cases h2:s.length≤48
 · have h2': ¬(48:Int) < (s.length:Int):=by omega
   have key:Ez s=s.all fun c=>!(cls c.toNat == 0):=by simp only[Ez,hw1,h2]; simp
   simp -implicitDefEqProofs[h2']
   refine B5 (AWp.loopI [] (fun n f h G=>∃k:Nat,k+n=s.length∧f 15= .int .i64 k∧((s.drop k).all fun c=>!(cls c.toNat == 0))=(s.all fun c=>!(cls c.toNat == 0))) (s.length) (by simp) ⟨0,by simp,rfl,by simp⟩ ?_)
   rintro n f h G ⟨k,hk,h15,hs⟩
   refine AWp.run mixed fun Q2 hQ2=>?_
   simp -implicitDefEqProofs[AC.dsts,Au,At,Bo,h15]
   by_cases hlt:k < s.length
   · have hd:=List.drop_eq_getElem_cons hlt
     simp -implicitDefEqProofs[hlt]
     refine Ah (T1 s[k].toNat) (by simp) (by simp) (by simp[Ag,Aa,Ac,Al,Af,Kd.l]) ?_
     simp -implicitDefEqProofs
     cases hc:cls s[k].toNat == 0
     · simp -implicitDefEqProofs[Ba (n:=(k:Int)+1) (by omega) (by omega)]
       refine hQ2 _ _ _ (Cb (n - 1) (h) rfl (by omega) (by simp -implicitDefEqProofs[AC.dsts,Au,At,Aq]) ?_)
       refine⟨k+1,by omega,by simp[Aq],?_⟩
       rw[← hs,hd,List.all_cons,hc]; simp
     · have e:Ez s=false:=by rw[key,← hs,hd,List.all_cons,hc]; simp
       simp -implicitDefEqProofs
       refine hQ2 _ _ _ (Dg ?_)
       show KR _ _ Q _ _
       simp -implicitDefEqProofs
       refine hQ _ _ _ ?_
       simp -implicitDefEqProofs[e]
   · have e:Ez s=true:=by rw[key,← hs,List.drop_eq_nil_of_le (by omega)]; simp
     simp -implicitDefEqProofs[hlt]
     refine hQ2 _ _ _ (Ce ?_)
     show KE _ 0 _ Q _ _
     simp -implicitDefEqProofs
     refine hQ _ _ _ ?_
     simp -implicitDefEqProofs[e]
 · have h2':(48:Int) < (s.length:Int):=by omega
   have e:Ez s=false:=by simp[Ez,h2]
   simp -implicitDefEqProofs[h2']
   refine hQ _ _ _ ?_
   simp -implicitDefEqProofs[e]
theorem Ay3 (s:List UInt8):Ab Tryz.prog W4 [.str s] [] (.bool !Ez s) []:=by
 refine Ab.go mixed Aw6 (by simp) fun hfit Q hQ=>?_
 clear hfit
 simp -implicitDefEqProofs[Ah1]
 refine Ah (Ua s) (by simp) (by simp) (by simp[Ag,Aa,Ac,Al,Af,Kd.l]) ?_
 simp -implicitDefEqProofs
 refine hQ _ _ _ ?_
 simp -implicitDefEqProofs
def asc:List (List UInt8)→Bool
 | a :: b :: r=>Op.bytesLess a b && asc (b :: r)
 | _=>true
theorem asc_drop (l:List (List UInt8)) (k:Nat) (h1:1≤k) (h:k < l.length):asc (l.drop (k - 1))=(Op.bytesLess l[k - 1] l[k] && asc (l.drop k)):=by
 have e1:=List.drop_eq_getElem_cons (l:=l) (i:=k - 1) (by omega)
 have e2:=List.drop_eq_getElem_cons h
 have e3:k - 1+1=k:=by omega
 rw[e3] at e1
 rw[e1,e2,asc]
theorem Atl (l:List (List UInt8)) (k:Nat) (h:k < l.length):(Af l)[k]? =some [.str l[k]]:=by simp[Af,h]
theorem Hc (l:List (List UInt8)):(Af l).length=l.length:=by simp[Af]
theorem W2 (l:List (List UInt8)):Ab Tryz.prog M5 [.sl .none (Af l)] [] (.bool (asc l)) []:=by
 refine Ab.go mixed Ai6 (by simp) fun hfit Q hQ=>?_
 have hln:l.length≤1073741824:=by simpa[Bn,AV.fits,A4,Af] using hfit.1.1
 clear hfit
 simp -implicitDefEqProofs[Aag,Af]
 refine B5 (AWp.loopI [] (fun n f h G=>∃k:Nat,1≤k∧k+n=l.length+1∧f 3= .int .i64 k∧asc (l.drop (k - 1))=asc l) (l.length) (by simp) ⟨1,by omega,by omega,rfl,by simp⟩ ?_)
 rintro n f h G ⟨k,hk1,hk,h3,hs⟩
 refine AWp.run mixed fun Q2 hQ2=>?_
 simp -implicitDefEqProofs[AC.dsts,Au,At,Bo,h3]
 by_cases hlt:k < l.length
 · have hlt2:k - 1 < l.length:=by omega
   have e1:IntKind.i64.wrap ((k:Int) - 1)=((k - 1:Nat):Int):=by rw[Ba (by omega) (by omega)]; omega
   have hd:=asc_drop l k hk1 hlt
   simp -implicitDefEqProofs[hlt]
   refine C3 (by rfl) ?_
   simp -implicitDefEqProofs[hlt,hlt2,e1]
   cases hv:Op.bytesLess l[k - 1] l[k]
   · have e:asc l=false:=by rw[← hs,hd,hv]; simp
     simp -implicitDefEqProofs
     refine hQ2 _ _ _ (Dg ?_)
     show KR _ _ Q _ _
     simp -implicitDefEqProofs
     refine hQ _ _ _ ?_
     simp -implicitDefEqProofs[e]
   · simp -implicitDefEqProofs[Ba (n:=(k:Int)+1) (by omega) (by omega)]
     refine hQ2 _ _ _ (Cb (n - 1) (h) rfl (by omega) (by simp -implicitDefEqProofs[AC.dsts,Au,At,Aq]) ?_)
     refine⟨k+1,by omega,by omega,by simp[Aq],?_⟩
     rw[← hs,hd,hv]; simp
 · have e:asc l=true:=by
    rw[← hs]
    rcases hq:l.drop (k - 1) with _ | ⟨a,_ | ⟨b,r⟩⟩
    · rfl
    · rfl
    · have:=congrArg List.length hq
      simp at this;omega
   simp -implicitDefEqProofs[hlt]
   refine hQ2 _ _ _ (Ce ?_)
   show KE _ 0 _ Q _ _
   simp -implicitDefEqProofs
   refine hQ _ _ _ ?_
   simp -implicitDefEqProofs[e]
theorem Ac2: ∀(a b:List (List UInt8)),Bt (fun x y=>x == y) a b=(a == b)
 | [],[]=>rfl
 | x :: xs,y :: ys=>by rw[Bt,Ac2 xs ys]; rfl
 | [],_ :: _=>rfl
 | _ :: _,[]=>rfl
theorem Wk (a b:List (List UInt8)):Ab Tryz.prog R3 [.sl .none (Af a),.sl .none (Af b)] [] (.bool (a == b)) []:=by
 rw[← Ac2]
 refine Ab.go mixed A1p (by simp) fun hfit Q hQ=>?_
 have hln:a.length≤1073741824:=by simpa[Bn,AV.fits,A4,Af] using hfit.1.1
 clear hfit
 simp -implicitDefEqProofs[Aod,Af]
 refine Cl (fun hb=>?_) (fun hb=>?_)
 · have e:Bt (fun x y=>x == y) a b=false:=Jt _ _ _ (by simp at hb;omega)
   simp -implicitDefEqProofs
   refine hQ _ _ _ ?_
   simp -implicitDefEqProofs[e]
 have hab:a.length=b.length:=by simp at hb;omega
 simp -implicitDefEqProofs
 refine B5 (AWp.loopI [] (fun n f h G=>∃k:Nat,k+n=a.length∧f 5= .int .i64 k∧Bt (fun x y=>x == y) (a.drop k) (b.drop k)=Bt (fun x y=>x == y) a b) (a.length) (by simp) ⟨0,by simp,rfl,by simp⟩ ?_)
 rintro n f h G ⟨k,hk,h5,hs⟩
 refine AWp.run mixed fun Q2 hQ2=>?_
 simp -implicitDefEqProofs[AC.dsts,Au,At,Bo,h5]
 by_cases hlt:k < a.length
 · have hlt2:k < b.length:=by omega
   have hd:=List.drop_eq_getElem_cons hlt
   have hd2:=List.drop_eq_getElem_cons hlt2
   simp -implicitDefEqProofs[hlt]
   refine C3 (by rfl) ?_
   simp -implicitDefEqProofs[hlt,hlt2]
   refine Cl (fun hv=>?_) (fun hv=>?_)
   · have hv':(a[k] == b[k])=false:=by simpa using hv
     have e:Bt (fun x y=>x == y) a b=false:=by rw[← hs,hd,hd2,Bt,hv']; rfl
     simp -implicitDefEqProofs
     refine hQ2 _ _ _ (Dg ?_)
     show KR _ _ Q _ _
     simp -implicitDefEqProofs
     refine hQ _ _ _ ?_
     simp -implicitDefEqProofs[e]
   · have hv':(a[k] == b[k])=true:=by simpa using hv
     simp -implicitDefEqProofs[Ba (n:=(k:Int)+1) (by omega) (by omega)]
     refine hQ2 _ _ _ (Cb (n - 1) (h) rfl (by omega) (by simp -implicitDefEqProofs[AC.dsts,Au,At,Aq]) ?_)
     refine⟨k+1,by omega,by simp[Aq],?_⟩
     rw[← hs,hd,hd2,Bt,hv']; rfl
 · have e:Bt (fun x y=>x == y) a b=true:=by rw[← hs,List.drop_eq_nil_of_le (by omega),List.drop_eq_nil_of_le (by omega)]; rfl
   simp -implicitDefEqProofs[hlt]
   refine hQ2 _ _ _ (Ce ?_)
   show KE _ 0 _ Q _ _
   simp -implicitDefEqProofs
   refine hQ _ _ _ ?_
   simp -implicitDefEqProofs[e]
theorem As7 (a b:List (List UInt8)):Ab Tryz.prog Tg [.sl .none (Af a),.sl .none (Af b)] [] (.bool (a == b)) []:=by
 rw[← Ac2]
 refine Ab.go mixed Anh (by simp) fun hfit Q hQ=>?_
 have hln:a.length≤1073741824:=by simpa[Bn,AV.fits,A4,Af] using hfit.1.1
 clear hfit
 simp -implicitDefEqProofs[Y2,Af]
 refine Cl (fun hb=>?_) (fun hb=>?_)
 · have e:Bt (fun x y=>x == y) a b=false:=Jt _ _ _ (by simp at hb;omega)
   simp -implicitDefEqProofs
   refine hQ _ _ _ ?_
   simp -implicitDefEqProofs[e]
 have hab:a.length=b.length:=by simp at hb;omega
 simp -implicitDefEqProofs
 refine B5 (AWp.loopI [] (fun n f h G=>∃k:Nat,k+n=a.length∧f 13= .int .i64 k∧Bt (fun x y=>x == y) (a.drop k) (b.drop k)=Bt (fun x y=>x == y) a b) (a.length) (by simp) ⟨0,by simp,rfl,by simp⟩ ?_)
 rintro n f h G ⟨k,hk,h13,hs⟩
 refine AWp.run mixed fun Q2 hQ2=>?_
 simp -implicitDefEqProofs[AC.dsts,Au,At,Bo,h13]
 by_cases hlt:k < a.length
 · have hlt2:k < b.length:=by omega
   have hd:=List.drop_eq_getElem_cons hlt
   have hd2:=List.drop_eq_getElem_cons hlt2
   simp -implicitDefEqProofs[hlt]
   refine C3 (by rfl) ?_
   simp -implicitDefEqProofs[hlt,hlt2]
   refine Cl (fun hv=>?_) (fun hv=>?_)
   · have hv':(a[k] == b[k])=false:=by simpa using hv
     have e:Bt (fun x y=>x == y) a b=false:=by rw[← hs,hd,hd2,Bt,hv']; rfl
     simp -implicitDefEqProofs
     refine hQ2 _ _ _ (Dg ?_)
     show KR _ _ Q _ _
     simp -implicitDefEqProofs
     refine hQ _ _ _ ?_
     simp -implicitDefEqProofs[e]
   · have hv':(a[k] == b[k])=true:=by simpa using hv
     simp -implicitDefEqProofs[Ba (n:=(k:Int)+1) (by omega) (by omega)]
     refine hQ2 _ _ _ (Cb (n - 1) (h) rfl (by omega) (by simp -implicitDefEqProofs[AC.dsts,Au,At,Aq]) ?_)
     refine⟨k+1,by omega,by simp[Aq],?_⟩
     rw[← hs,hd,hd2,Bt,hv']; rfl
 · have e:Bt (fun x y=>x == y) a b=true:=by rw[← hs,List.drop_eq_nil_of_le (by omega),List.drop_eq_nil_of_le (by omega)]; rfl
   simp -implicitDefEqProofs[hlt]
   refine hQ2 _ _ _ (Ce ?_)
   show KE _ 0 _ Q _ _
   simp -implicitDefEqProofs
   refine hQ _ _ _ ?_
   simp -implicitDefEqProofs[e]
end Go.Proofs.YtemdkfnenjpioaaGreatDoor
namespace Go.Proofs.YtemdkfnenjpioaaGreatDoor
open Go
attribute [local simp] Ar aev Ax A7 start AV.cells AV.undef Bc Be Bh Bl Bj AV.isCell Bf A1 Bi
attribute [local simp] fin A9 A8 Bb AV.strip Ay A5 AV.inScope Am A0 As
attribute [local simp] Gg
theorem A02 (s p:List UInt8):Ab Tryz.prog Sz [.str s,.str p] [] (.bool (s.take p.length == p && decide (p.length≤s.length))) []:=by
 refine Ab.go mixed Aqr (by simp) fun hfit Q hQ=>?_
 clear hfit
 simp -implicitDefEqProofs[Aea]
 by_cases h:p.length≤s.length
 · have h':(p.length:Int)≤s.length:=by omega
   simp -implicitDefEqProofs[h,h']
   refine hQ _ _ _ ?_
   simp -implicitDefEqProofs[h]
 · have h': ¬(p.length:Int)≤s.length:=by omega
   simp -implicitDefEqProofs[h,h']
   refine hQ _ _ _ ?_
   simp -implicitDefEqProofs[h]
def Mb (s p:List UInt8):Bool:=s.take p.length == p && decide (p.length≤s.length)
def Hw (s p:List UInt8):AV:=if Mb s p then .tup [.str (s.drop p.length),.bool true] else .tup [.str s,.bool false]
theorem Aqt (s p:List UInt8) (n:Nat):(Hw s p).inScope n=true:=by unfold Hw;split<;>simp
theorem Awm (s p:List UInt8):Ab Tryz.prog R9 [.str s,.str p] [] (Hw s p) []:=by
 refine Ab.go mixed Amr (by simp) fun hfit Q hQ=>?_
 clear hfit
 simp -implicitDefEqProofs[Aeb]
 refine Ah (A02 s p) (by simp) (by simp) (by simp[Ag,Aa,Ac,Al,Af,Kd.l]) ?_
 cases h:Mb s p
 · have h2:=h
   unfold Mb at h2
   simp -implicitDefEqProofs[h2]
   refine hQ _ _ _ ?_
   simp -implicitDefEqProofs[Hw,h]
 · have h2:=h
   unfold Mb at h2
   have h3:p.length≤s.length:=by simp at h2;exact h2.2
   have h4:(s.take p.length == p)=true:=by simp at h2;simp[h2.1]
   simp -implicitDefEqProofs[h2,h3,h4]
   refine hQ _ _ _ ?_
   simp -implicitDefEqProofs[Hw,h]
theorem A0s (s p:List UInt8):Ab Tryz.prog S0 [.str s,.str p] [] (Hw s p) []:=by
 refine Ab.go mixed Ai9 (by simp) fun hfit Q hQ=>?_
 clear hfit
 simp -implicitDefEqProofs[Ad6]
 refine Ah (Awm s p) (by simp) (Aqt s p 0) (by simp) ?_
 cases h:Mb s p
 · simp -implicitDefEqProofs[Hw,h]
   refine hQ _ _ _ ?_
   simp -implicitDefEqProofs[Hw,h]
 · simp -implicitDefEqProofs[Hw,h]
   refine hQ _ _ _ ?_
   simp -implicitDefEqProofs[Hw,h]
end Go.Proofs.YtemdkfnenjpioaaGreatDoor
