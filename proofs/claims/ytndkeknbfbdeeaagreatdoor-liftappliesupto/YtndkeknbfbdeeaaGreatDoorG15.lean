/- A part of the proof that LiftApplies answers true. -/
import Derived.Test.YtndkeknbfbdeeaaGreatDoorG14
set_option linter.all false
set_option maxHeartbeats 4000000
set_option maxRecDepth 100000
namespace Go.Proofs.YtndkeknbfbdeeaaGreatDoor
open Go
section
attribute [-simp] Int.not_lt Int.not_le
def A4e{e:TypeId}{A G:Ai}{tok:Dh}{els ys:List Ao}{k:Nat}(h:owns A.length G tok els k)(hl:els.length+ys.length<=A1)(hk:D3 k els=true)(hk2:D3 k ys=true):
 ∃tok' G',Ey k e tok els ys (A++G)=some (.sl tok' (els++ys),A++G')/\owns A.length G' tok' (els++ys) k/\G.length<=G'.length:=by
 rcases h with⟨rfl,rfl⟩|⟨j,e',rfl,hj⟩
 . cases ys with
   |nil=>exact⟨.nilT,G,by simp[Ey,Id,A1,D3],.inl ⟨rfl,rfl⟩,Bm _⟩
   |cons y ys=>
    refine⟨.own (A++G).length,G++[.tok (ys.length+1) k e],?_,?_,Ab⟩
    . simp only[Ox,Pt,Gq]at hl;simp[Ey,hk,hk2,Id,hl]
    exact .inr ⟨G.length,e,Ab,Ab⟩
 have Ge:=(List.getElem?_eq_some_iff.1 hj).1;refine⟨.own (A.length+j),G.set j (.tok (els.length+ys.length) k (if e'=e then e else 0)),?_,.inr ⟨j,(if e'=e then e else 0),rfl,?_⟩,Ab⟩
 . have hg:(A++G)[A.length+j]? =some (.tok els.length k e'):=by
    rw[Hj Aa]; simpa using hj
   have Vw:(A++G).set (A.length+j) (.tok (els.length+ys.length) k (if e'=e then e else 0))=A++G.set j (.tok (els.length+ys.length) k (if e'=e then e else 0)):=by
    rw[qg _ _ Aa]; simp
   simp only[Ey,hl,hk,hk2,Mq,Bp,hg,Vw]
 simp[Ks Ge]
def ey{e:TypeId}{P:Program}{A G:Ai}{tok:Dh}{els ys:List Ao}{k:Nat}{dst:Option Nat}{l:B8}{kf:I7}{Q:Co}{t:Ao}(h:owns A.length G tok els k)(hl:els.length+ys.length<=A1)(hk:D3 k els=true)(hk2:D3 k ys=true)
 (hn:∀tok' G',owns A.length G' tok' (els++ys) k->G.length<=G'.length->I1 P l kf Q (Cd t dst (.sl tok' (els++ys))) (A++G')):ew P (Ey k e tok els ys (A++G)) dst l kf Q t:=by
 obtain⟨tok',G',e1,e2,e3⟩:=A4e (e:=e) h hl hk hk2;rw[e1];exact hn tok' G' e2 e3
def A9.loopG{P:Program}{x:AC}{t0:Ao}{A G0:Ai}{Q:AX->Ao->Ai->Prop}(bs:Ck)(I:Nat->(Nat->AV)->(Nat->Ao)->Ai->Prop)(n0:Nat)
 (hb:∀b∈bs,∃cs,A[b]? =some (.var cs)) (h0:I n0 (Gv t0) (Fs A) G0)
 (hr:∀n f h G,I n f h G->A9 P x (Jp t0 x.dsts f) (Ti A bs h++G) (Yh t0 x.dsts A bs I n Q)):A9 P (.loop x) t0 (A++G0) Q:=by
 refine A9.loop (fun n t H=>∃f h G,t=Jp t0 x.dsts f/\H=Ti A bs h++G/\I n f h G) n0 ⟨Gv t0,Fs A,G0,(xp _ _).symm,by rw[Agg bs A hb],h0⟩ ?_;rintro n t H ⟨f,h,G,rfl,rfl,hI⟩;refine A9.mono (hr n f h G hI) ?_;intro e t' H' hq
 cases e with
 |normal=>
  obtain⟨e1,m,h',G',hm,e2,ap⟩:=hq
  exact⟨m,hm,Gv t',h',G',e1.symm,e2,ap⟩
 |exit _=>exact hq
 |ret=>exact hq
def A9p(n:Nat):∃tok,my n []= .sl tok []/\owns 0 (Yu n []) tok [] 1:=by
 unfold my Yu;by_cases h:n=0
 . rw[Ae h,Ae h]; exact⟨_,rfl,Fp _ _ _⟩
 rw[Ac h,Ac h]; exact⟨_,rfl,.inr ⟨0,25,rfl,rfl⟩⟩
def N9:List (List Kd)->List Kd
 | []=>[]
 |l::ls=>l++N9 ls
def Ati:∀(ls:List (List Kd)) (k:Nat) (h:k<ls.length),N9 (ls.take (k+1))=N9 (ls.take k)++ls[k]
 | [],k,h=>by simp at h
 |l::ls,0,_=>by simp[N9]
 |l::ls,k+1,h=>by
  simp only[Yf,N9,ej];rw[Ati ls k (by simpa using h),Ow]
attribute [local simp] Cb Cq
def A0y(l:B6):Hc 233 [.sl .none (l.map Ak)] (.sl .none (l.map Ak)):=by
 cases l with
 |nil=>
  refine C7.nilOr (A:=[]) (B:=[]) ?_ ?_
  . refine Hg Aea fun Q hQ=>?_;simp[Lp];exact hQ
  refine Hg Aea fun Q hQ=>?_;simp[Lp,Ey,A1,D3,Id]
  exact hQ
 |cons s l=>
  refine Hf Aea fun Am Q hQ=>?_;have B5:l.length+1<=A1:=by simpa[Bl,AV.fits]using Am.1.1
  clear Am;simp[Lp,Ey,B5,D3,Id];exact hQ
def Mh:List (List Kd)->Nat
 | []=>0
 |l::ls=>l.length+Mh ls
def Avb(ls:List B6)(k:Nat)(h:k<ls.length):Mh (ls.take (k+1))=Mh (ls.take k)+ls[k].length:=by
 induction ls generalizing k with
 |nil=>simp at h
 |cons l ls ih=>
  cases k with
  |zero=>simp[Mh]
  |succ k=>
   simp only[Yf,Mh,ej];rw[ih k (by simpa using h)]; omega
def Ava(ls:List B6)(k:Nat):Mh (ls.take k)<=Mh ls:=by
 induction ls generalizing k with
 |nil=>simp
 |cons l ls ih=>
  cases k with
  |zero=>simp[Mh]
  |succ k=>simp only[Yf,Mh]; have:=ih k;omega
def Ba3(ls:List B6):(N9 ls).length=Mh ls:=by
 induction ls with
 |nil=>rfl
 |cons l ls ih=>simp[Mh,N9,ih]
def Uy(ls:List (List Kd)):List (List AV):=ls.map fun l=>[.sl .none (l.map Ak)]
def A0z(ls:List B6)(hT:Mh ls<=1000000000):Hc 27 [.sl .none (Uy ls)] (.sl .none ((N9 ls).map Ak)):=by
 refine Hf Biq fun Am Q hQ=>?_;have B5:ls.length<=1073741824:=by simpa[Bl,AV.fits,A1,Uy]using Am.1.1
 clear Am;simp[Uy];refine WL [] (fun n f h G=>∃k:Nat,k+n=ls.length/\f 11= .int .i64 k/\f 3= .int .i64 (Mh (ls.take k))/\G=[]) (ls.length) Ab ⟨0,Ab,rfl,rfl,rfl⟩ ?_;rintro n f h G ⟨k,hk,Fw,h3,rfl⟩ Q2 Aj;simp[Fw,h3];by_cases Af:k<ls.length
 . have ht:=Avb ls k Af;have hle:=Ava ls (k+1);have hnn:¬((Mh (ls.take k):Int)+(ls[k].length:Int)<0):=Aa;simp[Af,Au (n:=(k:Int)+1) Aa Aa,Au (n:=(Mh (ls.take k):Int)+(ls[k].length:Int)) Aa Aa,hnn];refine Aj (Ln h ?_);refine⟨k+1,Aa,Ab,?_,rfl⟩;simp[ht]
 have Dk:ls.take k=ls:=Gj Aa;simp[Af,Dk];refine Aj (Lx ?_);simp;obtain⟨tok0,hv,ho⟩:=A9p (Mh ls);have S4:=Bpm (Mh ls) Aa [];rw[hv]at S4;generalize Yu (Mh ls) []=G0 at S4 ho;refine C1 (r:=.sl tok0 []) (by simpa using S4) ?_;simp;refine Ip (A9.loopG (A:=[]) (G0:=G0) [] (fun n f h G=>∃(k:Nat) (tok:Dh),k+n=ls.length/\f 27= .int .i64 k/\f 6= .sl tok ((N9 (ls.take k)).map Ak)/\owns 0 G tok ((N9 (ls.take k)).map Ak) 1) ls.length Ab ⟨0,tok0,Ab,rfl,rfl,by simpa[N9]using ho⟩ ?_);clear Af Dk hk Fw h3 S4 ho hv Aj Q2;rintro n f h G ⟨k,tok,hk,ai,h6,Bt⟩;refine Ru fun Q2 Aj=>?_;simp[ai,h6];by_cases Af:k<ls.length
 . have ht:=Avb ls k Af;have hle:=Ava ls (k+1);have Ji:=Ba3 (ls.take k);simp[Af];refine ey (A:=[]) (by simpa using Bt) (by simp[A1]; omega) (Ea _ _ fun _=>Ab) (Ea _ _ fun _=>Ab) fun tok' G' Bv Ei=>?_;simp[Au (n:=(k:Int)+1) Aa Aa];refine Aj (Ln h ?_);have e:(N9 (ls.take (k+1))).map Ak=(N9 (ls.take k)).map Ak++ls[k].map Ak:=by rw[Ati _ _ Af]; simp
   refine⟨k+1,tok',Aa,Ab,?_,?_⟩
   . rw[e]; simp
   rw[e]; exact Bv
 have Dk:ls.take k=ls:=Gj Aa;simp[Af,Dk];refine Aj (Lx ?_);simp;exact hQ
def fq(s:Sm)(i:Int):List Kd:=if s.op=4 then s.ks else if s.op=6 then(if i=0 then s.ks else s.ks++s.more)else []
def A0o(s:Sm)(i:Int)(h1:s.ks.length<=1000000)(h2:s.more.length<=1000000):Hc 235 [An s,.int .i64 i] (.sl .none ((fq s i).map Ak)):=by
 have hcc:=A0z [s.ks,s.more] (by simp[Mh]; omega);have hcat:N9 [s.ks,s.more]=s.ks++s.more:=by simp[N9]
 rw[hcat]at hcc;have key:fq s i=if s.op=4 then s.ks else if s.op=6 then(if i=0 then s.ks else s.ks++s.more)else []:=rfl;generalize s.ks++s.more=kk at hcc key;refine Hg Bh7 fun Q hQ=>?_;simp[An,Av s];by_cases a1:s.op=4
 . simp[a1];exact hQ
 by_cases a2:s.op=6
 . by_cases a3:i=0
   . have key0:fq s i=s.ks:=by simp[fq,a2,a3]
     simp[a2,a3];exact hQ (by simp[key0])
   simp[a2,a3];refine Ca hcc ?_ (ha:=by simp[Uy]) (he:=by simp[Uy]);simp;exact hQ
 simp[a1,a2];exact hQ
end
section
attribute [-simp] Int.not_lt Int.not_le
def Dl:Sm:=.mk 0 0 [] A3 (.mk []) [] [] [] []
def Afp(o n:Int)(t:Bu)(c:Cn)(k:Kd)(ks more:B6)(names:List Bu)(l:O8):Bx (.mk o n t c k ks more names l)=[.int .i64 o,.int .i64 n,.str t,.int .i64 c.op,.int .i64 c.n,.str c.s,.sl .none (c.k.l.map Ak),.sl .none (At c.names),.sl .none (c.l.map Ag),
 .sl .none (k.l.map Ak),.sl .none (ks.map Ak),.sl .none (more.map Ak),.sl .none (At names),.sl .none (l.map Bx)]:=Av _
def Kl:Bx Dl=[.int .i64 0,.int .i64 0,.str [],.int .i64 0,.int .i64 0,.str [],.sl .none [],.sl .none [],.sl .none [],.sl .none [],.sl .none [],.sl .none [],.sl .none [],.sl .none []]:=by
 rw[Av]; rfl
def E6(o:Int)(ks more:List Kd)(i:Nat):Int:=if o=4 then ks.length else if o=6 then(if i=0 then ks.length else ks.length+more.length)else 0
def Aik(s:Sm)(i:Nat):((fq s (i:Int)).length:Int)=E6 s.op s.ks s.more i:=by
 unfold fq E6;split
 . rfl
 split
 . by_cases h:i=0
   . subst h;simp
   rw[Ac Aa,Ac h]; simp
 rfl
mutual
def Gt(f:Cn->Int->Cn×Int):Sm->Int->Sm×Int
 | .mk o n s c k ks more names l,d=>
   if Dr o=true/\(f c d).2≠0 then(Dl,(f c d).2)else
   if(Gu f o ks more l 0 d).2≠0 then(Dl,(Gu f o ks more l 0 d).2)else
   (.mk o n s (if Dr o=true then(f c d).1 else A3) k ks more names (Gu f o ks more l 0 d).1,0)
def Gu(f:Cn->Int->Cn×Int)(o:Int)(ks more:List Kd):List Sm->Nat->Int->List Sm×Int
 | [],_,_=>([],0)
 |x::xs,i,d=>if(Gt f x (d+E6 o ks more i)).2≠0 then([],(Gt f x (d+E6 o ks more i)).2)else
  ((Gt f x (d+E6 o ks more i)).1::(Gu f o ks more xs (i+1) d).1,(Gu f o ks more xs (i+1) d).2)
end
def wv(f:Cn->Int->Cn×Int)(s:Sm)(d:Int):Gt f s d=if Dr s.op=true/\(f s.con d).2≠0 then(Dl,(f s.con d).2)else
 if(Gu f s.op s.ks s.more s.l 0 d).2≠0 then(Dl,(Gu f s.op s.ks s.more s.l 0 d).2)else
 (.mk s.op s.n s.s (if Dr s.op=true then(f s.con d).1 else A3) s.k s.ks s.more s.names (Gu f s.op s.ks s.more s.l 0 d).1,0):=by
 cases s;rw[Gt]; rfl
def Lb:Nat->Sm->Prop
 |0,_=>False
 |h+1,s=>Cp s=true/\∀x∈s.l,Lb h x
mutual
def Avn:∀(s:Sm) (left d:Int) (h:Nat),401-d<=h->(mS s left d).2=true->Lb h s
 | .mk o n s c k ks more names l,left,d,h,hh,hm=>by
   rw[mS]at hm;split at hm
   . cases hm
   rename_i hc;have h1:¬400<d:=fun e=>hc (.inr (.inl e))
   have h3:Cp (.mk o n s c k ks more names l)=true:=by
    cases e:Cp (.mk o n s c k ks more names l)
    . exact absurd (.inr (.inr e)) hc
    rfl
   obtain⟨h',rfl⟩:∃h',h=h'+1:=⟨h-1,Aa⟩;exact⟨h3,Avs l left d _ h' Aa hm⟩
def Avs:∀(l:List Sm) (left d n:Int) (h:Nat),401-(d+1)<=h->(F7 l left d n).2=true->∀x∈l,Lb h x
 | [],_,_,_,_,_,_=>Ab
 |y::ys,left,d,n,h,hh,hm=>by
  rw[F7]at hm;split at hm
  . rename_i hc;intro x hx;rcases List.mem_cons.1 hx with e|hx
    . rw[e]; exact Avn y _ _ h hh hc
    exact Avs ys left d _ h hh hm x hx
  cases hm
end
def Uc{s:Sm}(h:Cu s=true):Lb 400 s:=Avn s 20000 1 400 Aa h
def Ac4{ks:B6}(h:J1 ks=true):ks.length<=1000:=by
 unfold J1 at h;simp only[Bb,Aw]at h;omega
def n6{s:Sm}(h:Cp s=true):s.ks.length<=1000/\s.more.length<=1000:=by
 simp only[Cp,Bb]at h;have h5:=h.2.2.2.2;unfold m5 at h5;split at h5
 . simp only[Bb,Aw]at h5;exact⟨Ac4 h5.2.1,by rw[h5.2.2]; simp⟩
 split at h5
 . simp only[Bb]at h5;exact⟨Ac4 h5.1,Ac4 h5.2.1⟩
 simp only[Bb,Aw]at h5;rw[h5.2.1,h5.2.2]; simp
def co{s:Sm}(h:Cp s=true)(ho:Dr s.op=true):Ar s.con=true:=by
 simp only[Cp,Bb]at h;have:=h.2.1;rwa [m2,Ae ho]at this
def Z5{s:Sm}(h:Cp s=true)(i:Nat):0<=E6 s.op s.ks s.more i/\E6 s.op s.ks s.more i<=2000:=by
 have:=n6 h;unfold E6
 (repeat' split)<;>omega
attribute [local simp] Cb Cq
def A7n:A3.op=0:=rfl
def cnZ_n:A3.n=0:=rfl
def cnZ_s:A3.s=[]:=rfl
def cnZ_k:A3.k.l=[]:=rfl
def A7m:A3.names=[]:=rfl
def cnZ_l:A3.l=[]:=rfl
def Bo0(m:Nat)(cap:Ao)(A:Ai)(f:Cn->Int->Cn×Int)(hvA:∀b,b<A.length->∃cs,A[b]? =some (.var cs))(A8:∀n,A.length<=n->Be n A=true)(Dv:∀n,A.length<=n->A0 n cap=true)
 (Gy:∀(c:Cn) (d:Int),Ar c=true->0<=d->d<=1000000->HP m ([Ad c,.int .i64 d]++cap) A (Bf (f c d)) A)
 (h:Nat) (s:Sm) (d:Int) (ht:Lb (h+1) s) (h0:0<=d) (hd:d+2000*(h+1:Nat)<=1000000)
 (A6:∀x∈s.l,∀d:Int,0<=d->d+2000*h<=1000000->HP 157 [An x,.int .i64 d,.fn (.func m) [] cap] A (Db (Gt f x d)) A):
 HP 157 [An s,.int .i64 d,.fn (.func m) [] cap] A (Db (Gt f s d)) A:=by
 have Jk:=A8 A.length (Bm _);have Xl:=Dv A.length (Bm _);have key:=wv f s d;have hn:=ht.1;have Um:=n6 hn;refine Hf Bih fun Am Q hQ=>?_;have hf:=Rj (c:=s) (by simpa[Bl,An,AV.fits]using Am.1);have B5:s.l.length<=1073741824:=hf.2.2.2.2.1;clear Am hf;simp[-Az,An,Av s];rw[Az];simp[-Az];rw[Az];refine Wd ?_;simp;refine Da (A0y s.ks) ?_;simp;refine Da (A0y s.more) ?_;simp;refine Da (dy s.names) ?_;simp;refine Ca (xc s.op) ?_;cases ho:Dr s.op
 . rw[Ac (by simp[ho])]at key;simp only[ho,Dp,Bq]at key;simp;have Ace:=fun i:Nat=>A0o s (i:Int) Aa Aa;have D8:=fun i:Nat=>Aik s i;have Xk:=fun i:Nat=>Z5 hn i;have hln2:s.l.length<=1073741824:=B5
   refine Ip (A9.loopI [A.length+2] (fun n f' h G=>∃(k:Nat) (tok:Dh) (P:O8),k+n=s.l.length/\P.length=k/\f' 53= .int .i64 k/\
    h (A.length+2)=[.int .i64 s.op,.int .i64 s.n,.str s.s,.int .i64 0,.int .i64 0,.str [],.sl .nilT [],.sl .nilT [],.sl .nilT [],.sl .none (s.k.l.map Ak),.sl .none (s.ks.map Ak),.sl .none (s.more.map Ak),.sl .none (At s.names),.sl tok (P.map Bx)]/\
    owns (A.length+3) G tok (P.map Bx) 14/\(Gu f s.op s.ks s.more (s.l.drop k) k d).2=(Gu f s.op s.ks s.more s.l 0 d).2/\P++(Gu f s.op s.ks s.more (s.l.drop k) k d).1=(Gu f s.op s.ks s.more s.l 0 d).1) s.l.length Ab ⟨0,.nilT,[],Ab,rfl,rfl,by simp[Fs],Fp _ _ _,rfl,rfl⟩ ?_)
   rintro n f' h' G ⟨k,tok,P,hk,hP,h53,ho',Bt,Dq,Dz⟩;refine Ru fun Q2 Aj=>?_;simp[h53,ho'];by_cases Af:k<s.l.length
   . have Fz:=Ct Af;have A6:=A6 s.l[k] (Cy _) (d+E6 s.op s.ks s.more k) (by have:=Xk k;omega) (by have:=Xk k;omega);rw[Fz,Gu]at Dz Dq;simp[Af,Av s.l[k]];refine Gr (fun _=>true) [] Bc Bc ?_;simp;refine Da (Ace k) ?_;simp[D8 k,Au (n:=d+E6 s.op s.ks s.more k) (by have:=Xk k;omega) (by have:=Xk k;omega)];refine py (r:=Db (Gt f s.l[k] (d+E6 s.op s.ks s.more k))) (fun H hH=>?_) ?_
     . obtain⟨M,rfl⟩:=vh hvA (fun _ _=>rfl) hH;have:=A6.suffix rfl (by simp[A0,AV.inScope,Xl]) Jk M;simpa[An,Av s.l[k]]using this
     generalize Gt f s.l[k] (d+E6 s.op s.ks s.more k)=p at Dz Dq ⊢;obtain⟨y,e2⟩:=p;simp only at Dz Dq;simp[Db,An,Av y];refine⟨fun b cs _ hb=>by simpa using E4 (L:=[_]) hb,?_⟩;by_cases hz:e2=0
     . rw[Ac (by simpa using hz)]at Dz Dq;simp only at Dz Dq;simp[hz,Dx];refine Tw (A++[_,_,_]) (G++[_,_]) (by simp only[Ow,Gb,Gx]; rfl) (by simpa using Lv Bt) (by simp[A1]; omega) (Ea _ _ Wa) Ab fun tok' G' Bv Ei=>?_;simp[Au (n:=(k:Int)+1) Aa Aa];refine Aj (Fo (n-1) (fun _=>[.int .i64 s.op,.int .i64 s.n,.str s.s,.int .i64 0,.int .i64 0,.str [],.sl .nilT [],.sl .nilT [],.sl .nilT [],.sl .none (s.k.l.map Ak),.sl .none (s.ks.map Ak),.sl .none (s.more.map Ak),.sl .none (At s.names),.sl tok' ((P++[y]).map Bx)]) (G':=G') (by simp[Av y]) Aa Ab ?_);refine⟨k+1,tok',P++[y],Aa,by simp[hP],Ab,Ab,by simpa[Av y]using Bv,Dq,by rw[<- Dz]; simp⟩
     rw[Ae hz]at Dz Dq;simp only at Dz Dq;have Qc:(e2 != 0)=true:=by simpa using hz
     have e1:Gt f s d=(Dl,e2):=by rw[key,<-Dq,Ae hz]
     simp[hz];refine Aj (Lr ?_);simp;exact hQ (by simp[e1,Db,An,Kl,Jk])
   have R7:P=(Gu f s.op s.ks s.more s.l 0 d).1:=by rw[<- Dz,Cm Aa]; simp[Gu]
   have Ij:(Gu f s.op s.ks s.more s.l 0 d).2=0:=by rw[<- Dq,Cm Aa]; rfl
   rw[Ac (by simpa using Ij),<-R7]at key;simp[Af];refine Aj (Lx ?_);simp;exact hQ (by simp[key,Db,An,Afp,A7n,cnZ_n,cnZ_s,cnZ_k,A7m,cnZ_l,Pi,Jk])
 have hv:=co hn ho;have hcbs:=fun L=>(Gy s.con d hv h0 Aa).suffix rfl (by simp[A0,Xl]) Jk L;clear hv;generalize f s.con d=p at key hcbs;obtain⟨c,e⟩:=p;simp only[ho,L1,Bp]at key;simp;refine N5 (first:=[]) (r:=Bf (c,e)) (by simpa[Ad,Ap s.con]using hcbs [_,_,_]) ?_;simp[Bf,Ad,Ap c];by_cases he:e=0
 case neg=>
  rw[Ae he]at key;have he':(e != 0)=true:=by simpa using he
  simp[he];exact hQ (by simp[key,Db,An,Kl,Jk])
 rw[Ac (by simpa using he)]at key;simp[he];have Ace:=fun i:Nat=>A0o s (i:Int) Aa Aa;have D8:=fun i:Nat=>Aik s i;have Xk:=fun i:Nat=>Z5 hn i;have hln2:s.l.length<=1073741824:=B5
 refine Ip (A9.loopI [A.length+2] (fun n f' h G=>∃(k:Nat) (tok:Dh) (P:O8),k+n=s.l.length/\P.length=k/\f' 53= .int .i64 k/\
  h (A.length+2)=[.int .i64 s.op,.int .i64 s.n,.str s.s,.int .i64 c.op,.int .i64 c.n,.str c.s,.sl .none (c.k.l.map Ak),.sl .none (At c.names),.sl .none (c.l.map Ag),.sl .none (s.k.l.map Ak),.sl .none (s.ks.map Ak),.sl .none (s.more.map Ak),.sl .none (At s.names),.sl tok (P.map Bx)]/\
  owns (A.length+4) G tok (P.map Bx) 14/\(Gu f s.op s.ks s.more (s.l.drop k) k d).2=(Gu f s.op s.ks s.more s.l 0 d).2/\P++(Gu f s.op s.ks s.more (s.l.drop k) k d).1=(Gu f s.op s.ks s.more s.l 0 d).1) s.l.length Ab ⟨0,.nilT,[],Ab,rfl,rfl,by simp[Fs],Fp _ _ _,rfl,rfl⟩ ?_)
 rintro n f' h' G ⟨k,tok,P,hk,hP,h53,ho',Bt,Dq,Dz⟩;refine Ru fun Q2 Aj=>?_;simp[h53,ho'];by_cases Af:k<s.l.length
 . have Fz:=Ct Af;have A6:=A6 s.l[k] (Cy _) (d+E6 s.op s.ks s.more k) (by have:=Xk k;omega) (by have:=Xk k;omega);rw[Fz,Gu]at Dz Dq;simp[Af,Av s.l[k]];refine Gr (fun _=>true) [] Bc Bc ?_;simp;refine Da (Ace k) ?_;simp[D8 k,Au (n:=d+E6 s.op s.ks s.more k) (by have:=Xk k;omega) (by have:=Xk k;omega)];refine py (r:=Db (Gt f s.l[k] (d+E6 s.op s.ks s.more k))) (fun H hH=>?_) ?_
   . obtain⟨M,rfl⟩:=vh hvA (fun _ _=>rfl) hH;have:=A6.suffix rfl (by simp[A0,AV.inScope,Xl]) Jk M;simpa[An,Av s.l[k]]using this
   generalize Gt f s.l[k] (d+E6 s.op s.ks s.more k)=p at Dz Dq ⊢;obtain⟨y,e2⟩:=p;simp only at Dz Dq;simp[Db,An,Av y];refine⟨fun b cs _ hb=>by simpa using E4 (L:=[_]) hb,?_⟩;by_cases hz:e2=0
   . rw[Ac (by simpa using hz)]at Dz Dq;simp only at Dz Dq;simp[hz,Dx];refine Tw (A++[_,_,_,_]) (G++[_,_]) (by simp only[Ow,Gb,Gx]; rfl) (by simpa using Lv Bt) (by simp[A1]; omega) (Ea _ _ Wa) Ab fun tok' G' Bv Ei=>?_;simp[Au (n:=(k:Int)+1) Aa Aa];refine Aj (Fo (n-1) (fun _=>[.int .i64 s.op,.int .i64 s.n,.str s.s,.int .i64 c.op,.int .i64 c.n,.str c.s,.sl .none (c.k.l.map Ak),.sl .none (At c.names),.sl .none (c.l.map Ag),.sl .none (s.k.l.map Ak),.sl .none (s.ks.map Ak),.sl .none (s.more.map Ak),.sl .none (At s.names),.sl tok' ((P++[y]).map Bx)]) (G':=G') (by simp[Av y]) Aa Ab ?_);refine⟨k+1,tok',P++[y],Aa,by simp[hP],Ab,Ab,by simpa[Av y]using Bv,Dq,by rw[<- Dz]; simp⟩
   rw[Ae hz]at Dz Dq;simp only at Dz Dq;have Qc:(e2 != 0)=true:=by simpa using hz
   have e1:Gt f s d=(Dl,e2):=by rw[key,<-Dq,Ae hz]
   simp[hz];refine Aj (Lr ?_);simp;exact hQ (by simp[e1,Db,An,Kl,Jk])
 have R7:P=(Gu f s.op s.ks s.more s.l 0 d).1:=by rw[<- Dz,Cm Aa]; simp[Gu]
 have Ij:(Gu f s.op s.ks s.more s.l 0 d).2=0:=by rw[<- Dq,Cm Aa]; rfl
 rw[Ac (by simpa using Ij),<-R7]at key;simp[Af];refine Aj (Lx ?_);simp;exact hQ (by simp[key,Db,An,Afp,Jk])
def oo(m:Nat)(cap:Ao)(A:Ai)(f:Cn->Int->Cn×Int)(hvA:∀b,b<A.length->∃cs,A[b]? =some (.var cs))(A8:∀n,A.length<=n->Be n A=true)(Dv:∀n,A.length<=n->A0 n cap=true)
 (Gy:∀(c:Cn) (d:Int),Ar c=true->0<=d->d<=1000000->HP m ([Ad c,.int .i64 d]++cap) A (Bf (f c d)) A):
 ∀(h:Nat) (s:Sm) (d:Int),Lb h s->0<=d->d+2000*h<=1000000->HP 157 [An s,.int .i64 d,.fn (.func m) [] cap] A (Db (Gt f s d)) A
 |0,_,_,ht,_,_=>ht.elim
 |h+1,s,d,ht,h0,hd=>Bo0 m cap A f hvA A8 Dv Gy h s d ht h0 hd fun x hx d h0 hd=>oo m cap A f hvA A8 Dv Gy h x d (ht.2 x hx) h0 hd
end
section
attribute [-simp] Int.not_lt Int.not_le
def Arx:Dd Dl:=by
 rw[Ju]; exact⟨Di,fun x hx=>by simp[Dl,Sm.l]at hx⟩
mutual
def wu(f:Cn->Int->Cn×Int):∀(s:Sm) (d:Int) (h:Nat),Lb h s->0<=d->d+2000*h<=1000000->(∀ c d,Ar c=true->0<=d->d<=1000000->Al (f c d).1<=1000000000000)->Dd (Gt f s d).1
 | .mk o n s c k ks more names l,d,0,ht,_,_,_=>ht.elim
 | .mk o n s c k ks more names l,d,h+1,ht,h0,hd,hf=>by
   rw[Gt];split
   . exact Arx
   split
   . exact Arx
   rw[Ju];refine⟨?_,Azk f l o ks more 0 d h (fun x hx=>ht.2 x hx) (Z5 ht.1) h0 Aa hf⟩;show Al (if Dr o=true then(f c d).1 else A3)<=_;split
   . rename_i ho;exact hf c d (co ht.1 ho) h0 Aa
   decide
def Azk(f:Cn->Int->Cn×Int):∀(l:List Sm) (o:Int) (ks more:List Kd) (i:Nat) (d:Int) (h:Nat),(∀ x∈l,Lb h x)->(∀ i,0<=E6 o ks more i/\E6 o ks more i<=2000)->0<=d->d+2000+2000*h<=1000000->(∀ c d,Ar c=true->0<=d->d<=1000000->Al (f c d).1<=1000000000000)->∀x∈(Gu f o ks more l i d).1,Dd x
 | [],_,_,_,_,_,_,_,_,_,_,_=>by simp[Gu]
 |y::ys,o,ks,more,i,d,h,ht,hb,h0,hd,hf=>by
  rw[Gu];split
  . simp
  intro x hx;have h1:=hb i;have e1:=wu f y (d+E6 o ks more i) h (ht y Ab) Aa Aa hf;have e2:=Azk f ys o ks more (i+1) d h (fun x hx=>ht x (by simp[hx])) hb h0 hd hf;rcases List.mem_cons.1 hx with e|hx
  . rw[e]; exact e1
  exact e2 x hx
end
def Jf(p:Sm×Int):Sm×Int:=if p.2≠0\/Cu p.1=false then(Dl,6)else(p.1,0)
def L4:List AV:=[.int .i64 0,.int .i64 0,.str [],.int .i64 0,.int .i64 0,.str [],.sl .nilT [],.sl .nilT [],.sl .nilT [],.sl .nilT [],.sl .nilT [],.sl .nilT [],.sl .nilT [],.sl .nilT []]
attribute [local simp] Cb Cq
def xb(p:Sm×Int)(hc:Dd p.1):Hc 156 [An p.1,.int .i64 p.2] (Db (Jf p)):=by
 obtain⟨y,e⟩:=p;have key:Jf (y,e)=if e≠0\/Cu y=false then(Dl,6)else(y,0):=rfl;refine Hg Bh8 fun Q hQ=>?_;simp[An,Av y];by_cases he:e=0
 . have he':(e != 0)=false:=by simpa using he
   simp[he];refine Ca (du y hc) ?_;cases hf:Cu y
   . rw[Ae (.inr hf)]at key;simp;exact hQ (by simp[key,Db,An,Kl])
   rw[Ac (by simp[he,hf])]at key;simp;exact hQ (by simp[key,Db,An,Av y])
 have he':(e != 0)=true:=by simpa using he
 rw[Ae (.inl he)]at key;simp[he];exact hQ (by simp[key,Db,An,Kl])
def Bos(c:Cn)(d by' fr:Int)(A:Ai)(i j:Nat)(hi:A[i]? =some (.var [.int .i64 by']))(hj:A[j]? =some (.var [.int .i64 fr]))(A8:Be A.length A=true)
 (hv:Ar c=true) (h0:0<=d) (hd:d<=1000000) (Y2:0<=by') (hb:by'<=20000) (Sa:0<=fr) (hf:fr<=1000000):
 HP 165 [Ad c,.int .i64 d,.ptr i 0,.ptr j 0] A (Bf (Ed c by' (fr+d))) A:=by
 have Jj:=(List.getElem?_eq_some_iff.1 hi).1;have Ge:=(List.getElem?_eq_some_iff.1 hj).1;have Fa:∀L:Ai,(A++L)[i]? =some (.var [.int .i64 by']):=fun L=>by rw[D5 Jj]; exact hi
 have Sc:∀L:Ai,(A++L)[j]? =some (.var [.int .i64 fr]):=fun L=>by rw[D5 Ge]; exact hj
 have Br:=Zp c by' (fr+d) (dw hv) Y2 hb Aa Aa;generalize Ed c by' (fr+d)=p at Br ⊢;obtain⟨r,e⟩:=p;refine Hg Bh2 fun Q hQ=>?_;simp[Ad,Ap c,Fa,Sc,Au (n:=fr+d) Aa Aa];refine Ca Br ?_;simp[Bf,Ad,Ap r];exact hQ (by simp[A8,Bf,Ad,Ap r])
def E0(s:Sm)(d fr:Int):Sm×Int:=if Cu s=false then(Dl,1)else Jf (Gt (fun c k=>Ed c d (fr+k)) s 0)
def Bot(s:Sm)(d fr:Int)(hc:Dd s)(Lh:0<=d)(hd:d<=20000)(Sa:0<=fr)(hf:fr<=20000):Hc 99 [An s,.int .i64 d,.int .i64 fr] (Db (E0 s d fr)):=by
 have a1:¬fr<0:=Aa;have a2:¬d < -20000:=Aa;have a3:¬20000<d:=Aa;have a4:¬d<0:=Aa;have a5:¬20001<fr:=Aa;refine Hg Bh1 fun Q hQ=>?_;simp[An,Av s];refine Ca (du s hc) ?_;cases hf1:Cu s
 . have key:E0 s d fr=(Dl,1):=by rw[E0,Ae hf1]
   simp;exact hQ (by simp[key,Db,An,Kl])
 have key:E0 s d fr=Jf (Gt (fun c k=>Ed c d (fr+k)) s 0):=by rw[E0,Ac (by simp[hf1])]
 have ht:=Uc hf1;simp[a1,a2,a3,a4,a5,Xx,Uz]
 have Ll:=oo 165 [.ptr 1 0,.ptr 2 0] [.var (Bx s),.var [.int .i64 d],.var [.int .i64 fr],.var L4] (fun c k=>Ed c d (fr+k)) (fun b hb=>by
  match b,hb with
  |0,_=>exact⟨_,rfl⟩
  |1,_=>exact⟨_,rfl⟩
  |2,_=>exact⟨_,rfl⟩
  |3,_=>exact⟨_,rfl⟩) (fun n _=>by simp[Be,A0,D9,AV.inScope,L4,Av s]) (fun n hn=>by simp only[Gq,Ox]at hn;simp[A0,AV.inScope]; omega)
  (fun c k hv h0 h1=>Bos c k d fr _ 1 2 rfl rfl (by simp[Be,A0,D9,AV.inScope,L4,Av s]) hv h0 h1 Lh hd Sa Aa) 400 s 0 ht Aa Aa
 have P6:=wu (fun c k=>Ed c d (fr+k)) s 0 400 ht Aa Aa (fun c k _ _ _=>by have:=oq (c:=c) (d:=d) (fr:=fr+k); omega);have Li:=xb _ P6;clear ht P6;generalize Gt (fun c k=>Ed c d (fr+k)) s 0=p at key Ll Li;obtain⟨y,e⟩:=p;refine C1 (r:=Db (y,e)) (by simpa[An,Av s,L4]using Ll) ?_;clear Ll;simp[Db,An,Av y];generalize Jf (y,e)=q at Li key;obtain⟨z,g⟩:=q;refine Ca Li ?_;simp[Db,An,Av z];exact hQ (by simp[key,Db,An,Av z])
end
section
mutual
def Ae8(L:Cn->Int->Cn)(hL:∀c bd,Al (L c bd)=1):∀(c:Cn) (bd left:Int),Al (Ep L c bd left).1<=Al c
 | .mk o n s k ns l,bd,left=>by
   rw[Ep];split
   . rw[Al]; show 1<=_;omega
   split
   . rw[hL,Al]; omega
   have:=Azx L hL l (if Bw o=true then IntKind.i64.wrap (bd+1)else bd) (left-1);simp only[Al]; omega
def Azx(L:Cn->Int->Cn)(hL:∀c bd,Al (L c bd)=1):∀(l:List Cn) (bd left:Int),Bd (Ec L l bd left).1<=Bd l
 | [],_,_=>by simp[Ec]
 |c::cs,bd,left=>by
  rw[Ec];have h1:=Ae8 L hL c bd left;have h2:=Azx L hL cs bd (Ep L c bd left).2;simp only[Bd]; omega
end
def La(l:List Cn)(c:Cn)(bd:Int):Cn:=
 if c.op≠1\/IntKind.i64.wrap (c.n-bd)<0 then W5 c else
 match l[(IntKind.i64.wrap (c.n-bd)).toNat]? with
 |none=>Ch (IntKind.i64.wrap (c.n-l.length))
 |some x=>(Ep (K8 bd 0) x 0 20000).1
def Bqi(l:Ax)(hl:∀x∈l,Al x<=1000000000000)(c:Cn)(bd:Int):Al (La l c bd)<=1000000000000:=by
 unfold La;split
 . simp[W5,Al,Bd]
 split
 . simp[Ch,Al,Bd]
 rename_i x hx;have:=Ae8 (K8 bd 0) (A0r bd 0) x 0 20000;have:=hl x (Sr hx);omega
attribute [local simp] Cb Cq
def Brt(l:Ax)(c:Cn)(bd:Int)(A:Ai)(i:Nat)(hi:A[i]? =some (.var [.sl .none (l.map Ag)]))(hv:∀b,b<A.length->∃cs,A[b]? =some (.var cs))(hs:∀n,A.length<=n->Be n A=true)(hl:l.length<=1000):
 HP 168 [Ad c,.int .i64 bd,.ptr i 0] A (Ad (La l c bd)) A:=by
 have A8:=hs A.length (Bm _);have Jj:=(List.getElem?_eq_some_iff.1 hi).1;have Fa:∀L:Ai,(A++L)[i]? =some (.var [.sl .none (l.map Ag)]):=fun L=>by rw[D5 Jj]; exact hi
 refine Hg Bj1 fun Q hQ=>?_;simp[-Int.not_lt, -Int.not_le,Ad,Ap c];by_cases h1:c.op=1
 . by_cases h2:IntKind.i64.wrap (c.n-bd)<0
   . have key:La l c bd=W5 c:=by rw[La,Ae (.inr h2)]
     simp[-Int.not_lt, -Int.not_le,h1,h2];refine Ca (xn c) ?_ (he:=by simp[Ad,Ap,h1]);simp[-Int.not_lt, -Int.not_le,Ad];exact hQ (by simp[-Int.not_lt, -Int.not_le,key,Ad,A8])
   obtain⟨j,hj⟩:∃j:Nat,IntKind.i64.wrap (c.n-bd)=j:=⟨_,(yc Aa).symm⟩;have M5:¬((j:Int)<0):=Aa;by_cases h3:j<l.length
   . have h3':¬(l.length<=j):=by omega
     have key:La l c bd=(Ep (K8 bd 0) l[j] 0 20000).1:=by
      rw[La,Ac (by rw[hj]; simp[h1]),hj];simp[h3]
     simp[-Int.not_lt, -Int.not_le,h1,hj,M5,Fa,h3'];obtain⟨B,hB⟩:∃B:Ai,B=A++[.var [.int .i64 1,.int .i64 c.n,.str c.s,.sl .none (c.k.l.map Ak),.sl .none (At c.names),.sl .none (c.l.map Ag)],.var [.int .i64 0,.int .i64 0,.str [],.sl .nilT [],.sl .nilT [],.sl .nilT []]]:=⟨_,rfl⟩;have aj:B.length=A.length+2:=by rw[hB]; simp
     have Yw:∀n,B.length<=n->Be n B=true:=fun n hn=>by rw[hB,Nh,hs n Aa]; simp[Be,A0,D9,AV.inScope]
     have hBv:∀b,b<B.length->∃cs,B[b]? =some (.var cs):=fun b hb=>by
      rw[aj]at hb;rw[hB];by_cases Af:b<A.length
      . rw[D5 Af]; exact hv b Af
      rw[Hj Aa];obtain hh|hh:b-A.length=0\/b-A.length=1:=Aa
      . rw[hh]; exact⟨_,rfl⟩
      rw[hh]; exact⟨_,rfl⟩
     have Br:=Agd bd 0 B Yw
     have hlf:=Afk bd 0 (B++[.var [.int .i64 bd],.var [.int .i64 0]]) (B.length+1) B.length (by rw[Hj Aa]; simp) (by rw[Hj Aa]; simp) (fun b hb=>by
      by_cases Af:b<B.length
      . rw[D5 Af]; exact hBv b Af
      . rw[Hj Aa];simp only[Po,Gq,Ox]at hb;obtain hh|hh:b-B.length=0\/b-B.length=1:=Aa
        . rw[hh]; exact⟨_,rfl⟩
        rw[hh]; exact⟨_,rfl⟩) (fun n hn=>by
      simp only[Po,Gq,Ox]at hn
      rw[Nh,Yw n Aa]; simp[Be,A0,AV.inScope])
     have Ll:=Agb 243 _ _ _ hlf l[j] 0 20000 Aa Aa;rw[<- key]at Ll;generalize (Ep (K8 bd 0) l[j] 0 20000).2=lf2 at Ll;rw[aj]at Br Ll;rw[hB]at Br Ll;clear hB hlf Yw hBv aj;refine C1 (r:=.fn (.func 243) [] [.ptr (A.length+2+1) 0,.ptr (A.length+2) 0]) (by simpa using Br) ?_;clear Br;simp[-Int.not_lt, -Int.not_le,Fa,aa,h3];refine C1 (r:=Ad (La l c bd)) (by simpa[Ad,Ap l[j]]using Ll) ?_;clear Ll;clear key;simp[-Int.not_lt, -Int.not_le,Ad,Ap (La l c bd)];exact hQ (by simp[-Int.not_lt, -Int.not_le,Ad,Ap (La l c bd),A8])
   have h3':l.length<=j:=by omega
   have key:La l c bd=Ch (IntKind.i64.wrap (c.n-l.length)):=by
    rw[La,Ac (by rw[hj]; simp[h1]),hj];simp[h3]
   simp[-Int.not_lt, -Int.not_le,h1,hj,M5,Fa,h3'];refine Ca (A2c (IntKind.i64.wrap (c.n-l.length))) ?_;simp[-Int.not_lt, -Int.not_le,Ad];exact hQ (by simp[-Int.not_lt, -Int.not_le,key,Ad,A8])
 have key:La l c bd=W5 c:=by rw[La,Ae (.inl h1)]
 simp[-Int.not_lt, -Int.not_le,h1];refine Ca (xn c) ?_;simp[-Int.not_lt, -Int.not_le,Ad];exact hQ (by simp[-Int.not_lt, -Int.not_le,key,Ad,A8])
def Bqh(l:Ax)(A:Ai)(i:Nat)(hi:A[i]? =some (.var [.sl .none (l.map Ag)]))(hv:∀b,b<A.length->∃cs,A[b]? =some (.var cs))(hs:∀n,A.length<=n->Be n A=true)(hl:l.length<=1000)(hz:∀x∈l,Al x<=1000000000000):
 Yd 168 [.ptr i 0] A (La l) where
 call c bd:=Brt l c bd A i hi hv hs hl
 vars:=hv
 sc:=hs
 csc n hn:=by
  have h1:=(List.getElem?_eq_some_iff.1 hi).1;simp[A0,AV.inScope]; omega
 strip:=by simp[Ce,AV.strip]
 size c bd:=Bqi l hz c bd
def Eg(c:Cn)(l:List Cn):Cn×Int:=if Ar c=false\/l.all Ar=false then(A3,1)else if 1000<l.length then(A3,5)else Ki (La l) c
def o9(c:Cn)(l:Ax)(hc:Al c<=1000000000000)(hz:∀x∈l,Al x<=1000000000000):Hc 101 [Ad c,.sl .none (l.map Ag)] (Bf (Eg c l)):=by
 have Ky:=Brw l hz;generalize Y1:l.all Ar=av at Ky;refine Hg Bj0 fun Q hQ=>?_;simp[-Int.not_lt, -Int.not_le,Ad];refine Ca (Lc c hc) ?_;cases hv:Ar c
 . have key:Eg c l=(A3,1):=by rw[Eg,Ae (.inl hv)]
   simp[-Int.not_lt, -Int.not_le];exact hQ (by simp[-Int.not_lt, -Int.not_le,key,Bf,Ad,E9])
 simp[-Int.not_lt, -Int.not_le];refine Ca Ky ?_;cases av
 . have key:Eg c l=(A3,1):=by rw[Eg,Ae (.inr Y1)]
   simp[-Int.not_lt, -Int.not_le];exact hQ (by simp[-Int.not_lt, -Int.not_le,key,Bf,Ad,E9])
 by_cases hl:1000<l.length
 . have key:Eg c l=(A3,5):=by rw[Eg,Ac (by rw[hv,Y1]; simp)]; simp[hl]
   have Ci:(1000:Int)<(l.length:Int):=Aa;simp[-Int.not_lt, -Int.not_le,Ci];exact hQ (by simp[-Int.not_lt, -Int.not_le,key,Bf,Ad,E9])
 have key:Eg c l=Ki (La l) c:=by rw[Eg,Ac (by rw[hv,Y1]; simp)]; simp[hl]
 have Ok:=Agc 168 [.ptr 1 0] [.var (Ag c),.var [.sl .none (l.map Ag)],.var [.int .i64 0,.int .i64 0,.str [],.sl .nilT [],.sl .nilT [],.sl .nilT []]] _
  (Bqh l _ 1 rfl (fun b hb=>by
   match b,hb with
   |0,_=>exact⟨_,rfl⟩
   |1,_=>exact⟨_,rfl⟩
   |2,_=>exact⟨_,rfl⟩) (fun n _=>by simp[Be,A0,D9,AV.inScope]) Aa hz) c
 have Ci:¬(1000:Int)<(l.length:Int):=Aa;simp[-Int.not_lt, -Int.not_le,Ci];refine C1 (r:=Bf (Eg c l)) (by simpa[Ad,key]using Ok) ?_;clear Ok key;generalize hq:Eg c l=q;obtain⟨r,e⟩:=q;simp[-Int.not_lt, -Int.not_le,Bf,Ad,Ap r];exact hQ (by simp[-Int.not_lt, -Int.not_le,hq,Bf,Ad,Ap r])
end
section
attribute [-simp] Int.not_lt Int.not_le
def Ny(c:Cn)(d fr:Int):Cn×Int:=if Ar c=true/\20000<d then(A3,2)else Ed c d fr
mutual
def sb(l:List Cn):Cn->Int->Cn×Int
 | .mk o n s k ns cl,d=>if o=1 then(if IntKind.i64.wrap (n-d)<0 then(.mk o n s k ns cl,0)else
  match l[(IntKind.i64.wrap (n-d)).toNat]? with
  |some x=>Ny x d 0
  |none=>(.mk o (IntKind.i64.wrap (n-l.length)) s k ns cl,0))
  else if(J4 l cl (if Bw o=true then d+1 else d)).2≠0 then(A3,(J4 l cl (if Bw o=true then d+1 else d)).2)else(.mk o n s k ns (J4 l cl (if Bw o=true then d+1 else d)).1,0)
def J4(l:List Cn):List Cn->Int->List Cn×Int
 | [],_=>([],0)
 |x::xs,d=>if(sb l x d).2≠0 then([],(sb l x d).2)else((sb l x d).1::(J4 l xs d).1,(J4 l xs d).2)
end
def sb_eq(l:Ax)(c:Cn)(d:Int):sb l c d=if c.op=1 then(if IntKind.i64.wrap (c.n-d)<0 then(c,0)else
 match l[(IntKind.i64.wrap (c.n-d)).toNat]? with
 |some x=>Ny x d 0
 |none=>(.mk c.op (IntKind.i64.wrap (c.n-l.length)) c.s c.k c.names c.l,0))
 else if(J4 l c.l (if Bw c.op=true then d+1 else d)).2≠0 then(A3,(J4 l c.l (if Bw c.op=true then d+1 else d)).2)else(.mk c.op c.n c.s c.k c.names (J4 l c.l (if Bw c.op=true then d+1 else d)).1,0):=by
 cases c;rw[sb]; rfl
attribute [local simp] Cb Cq
def A15(c:Cn)(d fr:Int)(hc:Al c<=1000000000000)(Lh:0<=d)(hd:d<=1000000000)(Sa:0<=fr)(hf1:fr<=1000000000):
 Hc 134 [Ad c,.int .i64 d,.int .i64 fr] (Bf (Ny c d fr)):=by
 by_cases h:Ar c=true/\20000<d
 case neg=>
  by_cases Fz:20000<d
  . have hv:Ar c=false:=by
     cases hv:Ar c
     . rfl
     exact absurd ⟨hv,Fz⟩ h
    have key:Ny c d fr=(A3,1):=by rw[Ny,Ac h,Ed,Ac (by simp[hv])]
    refine Hg j7 fun Q hQ=>?_;simp[Ad];refine Ca (Lc c hc) ?_;simp[hv];exact hQ (by simp[key,Bf,Ad,E9])
  have key:Ny c d fr=Ed c d fr:=by rw[Ny,Ac h]
  rw[key];exact Zp c d fr hc Lh Aa Sa hf1
 case pos=>
  have key:Ny c d fr=(A3,2):=by rw[Ny,Ae h]
  obtain⟨hv,Fz⟩:=h;have a1:¬fr<0:=Aa;have a2:¬d < -20000:=Aa;refine Hg j7 fun Q hQ=>?_;simp[Ad];refine Ca (Lc c hc) ?_;simp[hv,a1,a2,Fz];exact hQ (by simp[key,Bf,Ad,E9])
def Bo2(l:Ax)(hz:∀x∈l,Al x<=1000000000000)(c:Cn)(d:Int)(h0:0<=d)(hd:d+Bo c<=10000000)
 (A6:∀x∈c.l,∀d:Int,0<=d->d+Bo x<=10000000->Hc 159 [Ad x,.sl .none (l.map Ag),.int .i64 d] (Bf (sb l x d))):
 Hc 159 [Ad c,.sl .none (l.map Ag),.int .i64 d] (Bf (sb l c d)):=by
 have Xm:=Jt c;have key:=sb_eq l c d
 have hB:(Bw c.op=false/\(if Bw c.op=true then d+1 else d)=d)\/(Bw c.op=true/\(if Bw c.op=true then d+1 else d)=d+1):=by
  cases Bw c.op<;>simp
 generalize (if Bw c.op=true then d+1 else d)=ub at key hB;refine Hf Bij fun Am Q hQ=>?_;have hf:=Mv (c:=c) (by simpa[Bl,Ad,AV.fits]using Am.1);have B5:c.l.length<=1073741824:=hf.2.2.2.2.2.2.2.1;have Dw:l.length<=1073741824:=by simpa[Bl,AV.fits,A1]using Am.2.1.1
 clear Am hf;simp[-Az,Ad,Ap c];rw[Az];simp[-Az];by_cases h1:c.op=1
 . rw[Ae h1]at key;by_cases h2:IntKind.i64.wrap (c.n-d)<0
   . rw[Ae h2]at key;simp[h1,h2];exact hQ (by simp[key,Bf,Ad,Ap c,h1])
   rw[Ac h2]at key;obtain⟨j,hj⟩:∃j:Nat,IntKind.i64.wrap (c.n-d)=j:=⟨_,(yc Aa).symm⟩;have M5:¬((j:Int)<0):=Aa;rw[hj,p8]at key;by_cases h3:j<l.length
   . rw[Il h3]at key;simp only at key;have Br:=A15 l[j] d 0 (hz _ (Cy _)) h0 Aa Aa Aa;generalize Ny l[j] d 0=p at key Br;obtain⟨r,e⟩:=p;simp[h1,hj,M5,h3];refine Ca Br ?_;simp[Bf,Ad,Ap r];exact hQ (by simp[key,Bf,Ad,Ap r])
   rw[Im Aa]at key;simp only at key;simp[h1,hj,M5,h3];exact hQ (by simp[key,Bf,Ad,Fj,h1])
 rw[Ac h1]at key;have hbe:(c.op==1)=false:=by simpa using h1
 rw[Az,Az];simp[-Az,h1];rw[Az];refine Wd ?_;simp[-Az];refine Da (dy c.names) ?_;simp[-Az];refine Gc (fun f=>f 2= .int .i64 ub) (fun Q' hn hr=>?_) (fun f hI=>?_)
 . simp;rcases hB with⟨hB,e⟩|⟨hB,e⟩
   . have hb:((¬ c.op=9/\¬c.op=10)/\¬c.op=11)/\¬c.op=13:=by simpa[Bw]using hB
     obtain⟨⟨⟨b1,b2⟩,b3⟩,b4⟩:=hb;simp[b1,b2,b3,b4];refine hn _ Ab ?_;simp[e]
   have hb:c.op=9\/c.op=10\/c.op=11\/c.op=13:=by simpa[Bw,or_assoc]using hB
   have hw:=Au (n:=d+1) Aa Aa;rcases hb with b|b|b|b
   . have q9:decide (c.op=9)=true:=Mx b;simp[q9,hw];refine hn _ Ab ?_;simp[e]
   . have q9:decide (c.op=9)=false:=Jd Aa;have q10:decide (c.op=10)=true:=Mx b;simp[q9,q10,hw];refine hn _ Ab ?_;simp[e]
   . have q9:decide (c.op=9)=false:=Jd Aa;have q10:decide (c.op=10)=false:=Jd Aa;have q11:decide (c.op=11)=true:=Mx b;simp[q9,q10,q11,hw];refine hn _ Ab ?_;simp[e]
   have q9:decide (c.op=9)=false:=Jd Aa;have q10:decide (c.op=10)=false:=Jd Aa;have q11:decide (c.op=11)=false:=Jd Aa;have q13:decide (c.op=13)=true:=Mx b;simp[q9,q10,q11,q13,hw];refine hn _ Ab ?_;simp[e]
 have M9:0<=ub/\ub<=d+1:=by rcases hB with⟨_,e⟩|⟨_,e⟩<;>omega
 clear hB hbe;simp[hI]
 refine Ip (A9.loopI [2] (fun n f' h G=>∃(k:Nat) (tok:Dh) (P:Ax),k+n=c.l.length/\P.length=k/\f' 69= .int .i64 k/\
  h 2=[.int .i64 c.op,.int .i64 c.n,.str c.s,.sl .none (c.k.l.map Ak),.sl .none (At c.names),.sl tok (P.map Ag)]/\
  owns 3 G tok (P.map Ag) 6/\(J4 l (c.l.drop k) ub).2=(J4 l c.l ub).2/\P++(J4 l (c.l.drop k) ub).1=(J4 l c.l ub).1) c.l.length Ab ⟨0,.nilT,[],Ab,rfl,rfl,by simp[Fs],Fp _ _ _,rfl,rfl⟩ ?_)
 rintro n f' h' G ⟨k,tok,P,hk,hP,h69,ho',Bt,Dq,Dz⟩;refine Ru fun Q2 Aj=>?_;simp[h69,ho'];by_cases Af:k<c.l.length
 . have Fz:=Ct Af;have hdm:=Yq (Cy Af);have A6:=A6 c.l[k] (Cy _) ub M9.1 Aa;rw[Fz,J4]at Dz Dq;simp[Af,Ap c.l[k]];generalize sb l c.l[k] ub=p at Dz Dq A6;obtain⟨y,e2⟩:=p;simp only at Dz Dq;refine Ca A6 ?_;simp[Bf,Ad,Ap y];by_cases hz2:e2=0
   . rw[Ac (by simpa using hz2)]at Dz Dq;simp only at Dz Dq;simp[hz2,Dx];refine Tw [_,_,_] (G++[_,_]) (by simp only[Gb,Gx]; rfl) (by simpa using Lv Bt) (by simp[A1]; omega) (Ea _ _ Iq) Ab fun tok' G' Bv Ei=>?_;simp[Au (n:=(k:Int)+1) Aa Aa];refine Aj (Fo (n-1) (fun _=>[.int .i64 c.op,.int .i64 c.n,.str c.s,.sl .none (c.k.l.map Ak),.sl .none (At c.names),.sl tok' ((P++[y]).map Ag)]) (G':=G') (by simp[Ap y]) Aa Ab ?_);refine⟨k+1,tok',P++[y],Aa,by simp[hP],Ab,Ab,by simpa[Ap y]using Bv,Dq,by rw[<- Dz]; simp⟩
   rw[Ae hz2]at Dz Dq;simp only at Dz Dq;have Qc:(e2 != 0)=true:=by simpa using hz2
   have e1:sb l c d=(A3,e2):=by rw[key,<-Dq,Ae hz2]
   simp[hz2];refine Aj (Lr ?_);simp;exact hQ (by simp[e1,Bf,Ad,E9])
 have R7:P=(J4 l c.l ub).1:=by rw[<- Dz,Cm Aa]; simp[J4]
 have Ij:(J4 l c.l ub).2=0:=by rw[<- Dq,Cm Aa]; rfl
 rw[Ac (by simpa using Ij),<-R7]at key;simp[Af];refine Aj (Lx ?_);simp;exact hQ (by simp[key,Bf,Ad,Fj])
end
section
attribute [-simp] Int.not_lt Int.not_le
def A0v{c:Cn}{d fr:Int} :Al (Ny c d fr).1<=20000:=by
 unfold Ny;split
 . decide
 exact oq
mutual
def A0j(l:List Cn):∀(c:Cn) (d:Int),Al (sb l c d).1<=20000*Al c
 | .mk o n s k ns cl,d=>by
   rw[sb];generalize (if Bw o=true then d+1 else d)=ub;have hs:=A0l l cl ub;split
   . split
     . simp only[Al]; omega
     split
     . rename_i x _;have:=A0v (c:=x) (d:=d) (fr:=0);simp only[Al]; omega
     simp only[Al]; omega
   split
   . have:Al A3=1:=rfl;simp only[Al]; omega
   simp only[Al]; omega
def A0l(l:List Cn):∀(cl:List Cn) (d:Int),Bd (J4 l cl d).1<=20000*Bd cl
 | [],_=>by simp[J4,Bd]
 |x::xs,d=>by
  rw[J4];split
  . simp[Bd]
  have h1:=A0j l x d;have h2:=A0l l xs d;simp only[Bd]; omega
end
attribute [local simp] Cb Cq
def A0p(l:Ax)(hz:∀x∈l,Al x<=1000000000000)(c:Cn)(d:Int)(h0:0<=d)(hd:d+Bo c<=10000000):
 Hc 159 [Ad c,.sl .none (l.map Ag),.int .i64 d] (Bf (sb l c d)):=
 Bo2 l hz c d h0 hd fun x hx d h0 hd=>A0p l hz x d h0 hd
termination_by SizeOf.sizeOf c
decreasing_by exact Cn.lt_l ‹_›
def Bou(c:Cn)(hc:Al c<=1000000000000):Hc 155 [Ad c] (.bool !Ar c):=by
 refine Hg Bh5 fun Q hQ=>?_;simp[Ad];refine Ca (Lc c hc) ?_;simp;exact hQ
def Bov(l:Ax)(hz:∀x∈l,Al x<=1000000000000)(c:Cn)(d:Int)(A:Ai)(i:Nat)(hi:A[i]? =some (.var [.sl .none (l.map Ag)]))(A8:Be A.length A=true)
 (hv:Ar c=true) (h0:0<=d) (hd:d<=1000000):
 HP 158 [Ad c,.int .i64 d,.ptr i 0] A (Bf (sb l c d)) A:=by
 have Jj:=(List.getElem?_eq_some_iff.1 hi).1;have Fa:∀L:Ai,(A++L)[i]? =some (.var [.sl .none (l.map Ag)]):=fun L=>by rw[D5 Jj]; exact hi
 have Xm:Bo c<=400:=by simp only[Ar,Bb,Aw]at hv;exact hv.2.1
 have Br:=A0p l hz c d h0 Aa;generalize sb l c d=p at Br ⊢;obtain⟨r,e⟩:=p;refine Hg Bh6 fun Q hQ=>?_;simp[Ad,Ap c,Fa];refine Ca Br ?_;simp[Bf,Ad,Ap r];exact hQ (by simp[A8,Bf,Ad,Ap r])
def Ga(s:Sm)(l:List Cn):Sm×Int:=if Cu s=false\/l.all Ar=false then(Dl,1)else if 1000<l.length then(Dl,5)else Jf (Gt (fun c d=>sb l c d) s 0)
def A0n(s:Sm)(l:Ax)(hc:Dd s)(hz:∀x∈l,Al x<=1000000000000):Hc 95 [An s,.sl .none (l.map Ag)] (Db (Ga s l)):=by
 have Fy:Hc 84 [.sl .none (l.map Ag),.fn (.func 155) [] []] (.bool !l.all Ar):=by
  have h:=U9 l (fun x=>!Ar x) 155 fun x hx=>Bou x (hz x hx);rw[Rs]at h;exact h
 generalize Y1:l.all Ar=av at Fy;refine Hg Bh4 fun Q hQ=>?_;simp[An,Av s];refine Ca (du s hc) ?_;cases hf1:Cu s
 . have key:Ga s l=(Dl,1):=by rw[Ga,Ae (.inl hf1)]
   simp;exact hQ (by simp[key,Db,An,Kl])
 simp;refine Ca Fy ?_;cases av
 . have key:Ga s l=(Dl,1):=by rw[Ga,Ae (.inr Y1)]
   simp;exact hQ (by simp[key,Db,An,Kl])
 by_cases hl:1000<l.length
 . have key:Ga s l=(Dl,5):=by rw[Ga,Ac (by rw[hf1,Y1]; simp)]; simp[hl]
   have Ci:(1000:Int)<(l.length:Int):=Aa;simp[Ci];exact hQ (by simp[key,Db,An,Kl])
 have key:Ga s l=Jf (Gt (fun c d=>sb l c d) s 0):=by rw[Ga,Ac (by rw[hf1,Y1]; simp)]; simp[hl]
 have Ci:¬(1000:Int)<(l.length:Int):=Aa;have ht:=Uc hf1
 have Ll:=oo 158 [.ptr 1 0] [.var (Bx s),.var [.sl .none (l.map Ag)],.var L4] (fun c k=>sb l c k) (fun b hb=>by
  match b,hb with
  |0,_=>exact⟨_,rfl⟩
  |1,_=>exact⟨_,rfl⟩
  |2,_=>exact⟨_,rfl⟩) (fun n _=>by simp[Be,A0,D9,AV.inScope,L4,Av s]) (fun n hn=>by simp only[Gq,Ox]at hn;simp[A0,AV.inScope]; omega)
  (fun c k hv h0 h1=>Bov l hz c k _ 1 rfl (by simp[Be,A0,D9,AV.inScope,L4,Av s]) hv h0 h1) 400 s 0 ht Aa Aa
 have P6:=wu (fun c k=>sb l c k) s 0 400 ht Aa Aa (fun c k hv _ _=>by
  have:=A0j l c k;have:=Kn hv;show Al (sb l c k).1<=_
  omega)
 have Li:=xb _ P6;clear ht P6;generalize Gt (fun c k=>sb l c k) s 0=p at key Ll Li;obtain⟨y,e⟩:=p;simp[Ci];refine C1 (r:=Db (y,e)) (by simpa[An,Av s,L4]using Ll) ?_;clear Ll;simp[Db,An,Av y];generalize Jf (y,e)=q at Li key;obtain⟨z,g⟩:=q;refine Ca Li ?_;simp[Db,An,Av z];exact hQ (by simp[key,Db,An,Av z])
end
mutual
def Fe:Cn->Int->Int->Cn
 | .mk o n s k ns l,d,f=>if o=1 then(if f<=n then Ch (n+d)else .mk o n s k ns l)else .mk o n s k ns (Hs l d (if Bw o=true then f+1 else f))
def Hs:List Cn->Int->Int->List Cn
 | [],_,_=>[]
 |c::cs,d,f=>Fe c d f::Hs cs d f
end
mutual
def F5(l:List Cn):Cn->Int->Cn
 | .mk o n s k ns cl,d=>if o=1 then(if n<d then .mk o n s k ns cl else match l[(n-d).toNat]? with
  |some x=>Fe x d 0
  |none=>.mk o (n-l.length) s k ns cl)else .mk o n s k ns (Mg l cl (if Bw o=true then d+1 else d))
def Mg(l:List Cn):List Cn->Int->List Cn
 | [],_=>[]
 |c::cs,d=>F5 l c d::Mg l cs d
end
def A90(l:Ax)(d f:Int):Hs l d f=l.map fun x=>Fe x d f:=by
 induction l with
 |nil=>rfl
 |cons c l ih=>simp[Hs,ih]
def Acy(n d f:Int):Fe (Ch n) d f=if f<=n then Ch (n+d)else Ch n:=by
 unfold Ch;rw[Fe,Ae rfl]; rfl
mutual
def ww(d fr:Int)(hd: -20000<=d)(Dy:d<=20000):∀(c:Cn) (bd left:Int),C0 c=true->0<=bd->bd+Bo c<=10000->(Al c:Int)<=left->left<=20000->Ep (K8 d fr) c bd left=(Fe c d (fr+bd),left-Al c)
 | .mk o n s k ns l,bd,left,hf,hb,hdp,hs,hl=>by
   have hn:=hf;rw[Mu,Bb]at hn;obtain⟨hn,Ji⟩:=hn;have Ji:l.all C0=true:=Ji;have Cl:Al (.mk o n s k ns l)=1+Bd l:=Ir (.mk o n s k ns l);have M4:=Jt (.mk o n s k ns l);rw[Ep,Fe,Ac Aa];by_cases Eo:o=1\/o=2
   . obtain⟨e1,e2⟩:=jz hn Eo;simp only[Cn.l,Cn.names]at e1 e2;subst e1 e2;rw[Ae Eo];have hz:∀x:Int,Al (Ch x)=1:=fun _=>rfl;have hz2:Al (.mk o n s k [] [])=1:=rfl;rw[A0q];by_cases h1:o=1
     . obtain⟨-,g1,g2⟩:=V3 hn h1;simp only[Cn.n]at g1 g2;rw[Ae h1,Au (n:=n-bd) Aa Aa];by_cases hc:fr+bd<=n
       . rw[Ae ⟨h1,Aa⟩,Ae hc,hz,hz2,Au (n:=n+d) Aa Aa]
       rw[Ac (fun h=>hc Aa),Ac hc,hz2]
     rw[Ac h1,Ac (fun h=>h1 h.1),hz2,Hs]
   rw[Ac Eo,Ac (fun h=>Eo (.inl h))];simp only[Cn.l]at M4
   have hu:(if Bw o=true then IntKind.i64.wrap (bd+1)else bd)=(if Bw o=true then bd+1 else bd):=by
    split
    . exact Au Aa Aa
    rfl
   rw[hu,Azv d fr hd Dy l _ (left-1) Ji (by split<;>omega) (by split<;>omega) Aa Aa];have he:fr+(if Bw o=true then bd+1 else bd)=if Bw o=true then fr+bd+1 else fr+bd:=by split<;>omega
   rw[he];simp only[Al,Cg,L1];omega
def Azv(d fr:Int)(hd: -20000<=d)(Dy:d<=20000):∀(l:List Cn) (bd left:Int),l.all C0=true->0<=bd->bd+Cz l<=10000->(Bd l:Int)<=left->left<=20000->Ec (K8 d fr) l bd left=(Hs l d (fr+bd),left-Bd l)
 | [],bd,left,_,_,_,_,_=>by simp[Ec,Hs,Bd]
 |c::cs,bd,left,hf,hb,hdp,hs,hl=>by
  rw[Er,Bb]at hf;simp only[Cz]at hdp;simp only[Bd]at hs;rw[Ec,ww d fr hd Dy c bd left hf.1 hb Aa Aa hl];simp only;rw[Azv d fr hd Dy cs bd (left-Al c) hf.2 hb Aa Aa Aa,Hs,Bd];simp only[Cg,L1];omega
end
def Gz{c:Cn}(h:Ar c=true):Al c<=20000/\Bo c<=400/\C0 c=true:=by
 simp only[Ar,Bb,Aw]at h;exact⟨h.1,h.2.1,h.2.2⟩
def A0s{c r:Cn}{d fr:Int}(hd:0<=d)(Dy:d<=20000)(hv:Ar c=true)(h:Ed c d fr=(r,0)):r=Fe c d fr/\Ar r=true:=by
 obtain⟨h1,h2,h3⟩:=Gz hv;rw[Ed,Ae hv,Ki,ww d fr Aa Dy c 0 20000 h3 Aa Aa Aa Aa]at h;simp only[Ag1]at h;split at h
 . exact absurd (A4 Prod.snd h) Ab
 rename_i hc;have e:=A4 Prod.fst h;simp only at e;subst e;refine⟨rfl,?_⟩;cases hr:Ar (Fe c d fr)
 . exact absurd (.inr hr) hc
 rfl
def A1e(l:Ax)(o n:Int)(s:Bu)(k:Kd)(ns:List Bu)(cl:Ax)(bd:Int):La l (.mk o n s k ns cl) bd=if o≠1\/IntKind.i64.wrap (n-bd)<0 then .mk o n s k [] []else
 match l[(IntKind.i64.wrap (n-bd)).toNat]? with
 |none=>Ch (IntKind.i64.wrap (n-l.length))
 |some x=>(Ep (K8 bd 0) x 0 20000).1:=rfl
mutual
def A0i(l:List Cn)(hl:∀x∈l,Ar x=true)(Dw:l.length<=1000):∀(c:Cn) (d:Int) (r:Cn),C0 c=true->0<=d->d+Bo c<=10000000->sb l c d=(r,0)->r=F5 l c d
 | .mk o n s k ns cl,d,r,hf,hb,hdp,h=>by
   have hn:=hf;rw[Mu,Bb]at hn;obtain⟨hn,Ji⟩:=hn;have Ji:cl.all C0=true:=Ji;have M4:=Jt (.mk o n s k ns cl);simp only[Cn.l]at M4;rw[sb]at h;rw[F5];by_cases h1:o=1
   . obtain⟨Zd,g1,g2⟩:=V3 hn h1;simp only[Cn.n]at g1 g2 Zd;have hw:IntKind.i64.wrap (n-d)=n-d:=Au Aa Aa;rw[Ae h1,hw]at h;rw[Ae h1];by_cases hneg:n<d
     . rw[Ae Aa]at h;rw[Ae hneg];exact(A4 Prod.fst h).symm
     rw[Ac Aa]at h;rw[Ac hneg]
     cases hx:l[(n-d).toNat]? with
     |none=>
      rw[hx]at h;simp only at h;rw[Au Aa Aa]at h
      exact(A4 Prod.fst h).symm
     |some x=>
      rw[hx]at h;simp only at h;have hxv:=hl x (Sr hx);unfold Ny at h;split at h
      . exact absurd (A4 Prod.snd h) Ab
      rename_i hc;have:¬20000<d:=fun e=>hc ⟨hxv,e⟩;exact(A0s hb Aa hxv h).1
   rw[Ac h1]at h;rw[Ac h1];have hubb:0<=(if Bw o=true then d+1 else d)/\(if Bw o=true then d+1 else d)<=d+1:=by split<;>omega
   generalize (if Bw o=true then d+1 else d)=ub at h hubb ⊢;split at h
   . rename_i hc;exact absurd (A4 Prod.snd h) hc
   rename_i hc;have h0:(J4 l cl ub).2=0:=by simpa using hc
   have e:=A4 Prod.fst h;simp only at e;rw[<- e,A0k l hl Dw cl _ Ji Aa Aa h0]
def A0k(l:List Cn)(hl:∀x∈l,Ar x=true)(Dw:l.length<=1000):∀(cl:List Cn) (d:Int),cl.all C0=true->0<=d->d+Cz cl<=10000000->(J4 l cl d).2=0->(J4 l cl d).1=Mg l cl d
 | [],d,_,_,_,_=>by simp[J4,Mg]
 |c::cs,d,hf,hb,hdp,h=>by
  rw[Er,Bb]at hf;simp only[Cz]at hdp;rw[J4]at h ⊢;split at h
  . rename_i hc;exact absurd h hc
  rename_i hc;have h0:(sb l c d).2=0:=by simpa using hc
  simp only at h;rw[Ac hc,Mg];simp only;rw[A0k l hl Dw cs d hf.2 hb Aa h,<-A0i l hl Dw c d (sb l c d).1 hf.1 hb Aa (by rw[<- h0])]
end
