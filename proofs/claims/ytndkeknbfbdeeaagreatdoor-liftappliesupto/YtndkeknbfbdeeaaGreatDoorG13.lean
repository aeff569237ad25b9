/- A part of the proof that LiftApplies answers true. -/
import Derived.Test.YtndkeknbfbdeeaaGreatDoorG12
set_option linter.all false
set_option maxHeartbeats 4000000
set_option maxRecDepth 100000
namespace Go.Proofs.YtndkeknbfbdeeaaGreatDoor
open Go
variable {H:Ai}{c:Cn}
mutual
def Dm:Cn->Int->Int->Cn
 | .mk o n s k ns l,d,fr=>if o=1 then(if(if 20001<fr then 20001 else fr)<=n then Ch (IntKind.i64.wrap (n+d))else .mk o n s k ns l)else .mk o n s k ns (Lz l d (if Bw o=true then IntKind.i64.wrap ((if 20001<fr then 20001 else fr)+1)else(if 20001<fr then 20001 else fr)))
def Lz:List Cn->Int->Int->List Cn
 | [],_,_=>[]
 |c::cs,d,fr=>Dm c d fr::Lz cs d fr
end
def Bnw(l:Ax)(d fr:Int):Lz l d fr=l.map fun x=>Dm x d fr:=by
 induction l with
 |nil=>rfl
 |cons c l ih=>simp[Lz,ih]
def top(fr:Int):Int:=if 20001<fr then 20001 else fr
def Bnv(c:Cn)(d fr:Int):Dm c d fr=if c.op=1 then(if top fr<=c.n then Ch (IntKind.i64.wrap (c.n+d))else c)else .mk c.op c.n c.s c.k c.names (c.l.map fun x=>Dm x d (if Bw c.op=true then IntKind.i64.wrap (top fr+1)else top fr)):=by
 cases c;rw[Dm,Bnw]; rfl
def Bld(c:Cn)(d fr:Int)(A6:∀x∈c.l,∀fr,Hc 114 [Ad x,.int .i64 d,.int .i64 fr] (Ad (Dm x d fr))):
 Hc 114 [Ad c,.int .i64 d,.int .i64 fr] (Ad (Dm c d fr)):=by
 have key:=Bnv c d fr;refine Hf Bf6 fun Am Q hQ=>?_;have hf:=Mv (c:=c) (by simpa[Bl,Ad,AV.fits]using Am.1);have B5:c.l.length<=1073741824:=hf.2.2.2.2.2.2.2.1;clear Am hf;have ul:(if 20001<fr then(20001:Int)else fr)=top fr:=rfl;generalize htf:top fr=tf at key ul;simp[Ad,Ap c,Xx,Uz,ul,Cb];by_cases h1:c.op=1
 . rw[Ae h1]at key;by_cases h2:tf<=c.n
   . rw[Ae h2]at key;simp[h1,h2];exact hQ (by simp[key,Ad,Ch,Fj,Pi,Kd.l_mk])
   rw[Ac h2]at key;simp[h1,h2];exact hQ (by simp[key,Ad,Ap c,h1])
 rw[Ac h1]at key;generalize O6:(if Bw c.op=true then IntKind.i64.wrap (tf+1)else tf)=df at key;have Ui:=wc c tf;rw[O6]at Ui;obtain⟨l',Ci⟩:∃l',l'=c.l.map fun x=>Dm x d df:=⟨_,rfl⟩;have hlen:l'.length=c.l.length:=by rw[Ci]; simp
 have Lj:∀k (h:k<c.l.length) (h':k<l'.length),l'[k]=Dm c.l[k] d df:=fun k h h'=>by simp[Ci]
 rw[<- Ci]at key;simp[h1];refine WL [] (fun n f h G=>∃k tok,k+n=c.l.length/\f 8= .int .i64 k/\f 7= .sl tok ((l'.map Ag).take k)/\owns 2 G tok ((l'.map Ag).take k) 6) (c.l.length) Ab ⟨0,.nilT,Ab,rfl,rfl,Fp _ _ _⟩ ?_;rintro n f h G ⟨k,tok,hk,h8,h7,Bt⟩ Q2 Aj;simp[h8,h7];by_cases Af:k<c.l.length
 . have A6:=A6 c.l[k] (Cy _) df;have Cc:k<l'.length:=Aa;rw[<- Lj k Af Cc]at A6;simp[Af];refine Wd ?_;simp[Af];refine Da Ui ?_;simp;refine Da A6 ?_;simp[Ad,Dx];refine Yb (A:=[_,_]) Bt (by simp[A1]; omega) (P7 (Ea _ _ Iq)) Ab fun tok' G' Bv Ei=>?_;simp[Au (n:=(k:Int)+1) Aa Aa];refine Aj (Ln h ?_)
   have e:(l'.map Ag).take (k+1)=(l'.map Ag).take k++[Ag l'[k]]:=by
    rw[Nj _ _ (by simpa using Cc)]; simp
   refine⟨k+1,tok',Aa,Ab,?_,?_⟩
   . rw[e]; simp
   rw[e]; exact Bv
 have Dk:(l'.map Ag).take k=l'.map Ag:=Gj (by simp;omega);simp[Af];refine Aj (Lx ?_);simp[Dk];refine Ca (Axz c l') ?_;simp[Ad];exact hQ (by simp[key,Ad])
def dd(c:Cn)(d fr:Int):Hc 114 [Ad c,.int .i64 d,.int .i64 fr] (Ad (Dm c d fr)):=
 Bld c d fr fun x _ fr=>dd x d fr
termination_by SizeOf.sizeOf c
decreasing_by exact Cn.lt_l ‹_›
def C9(op:Int)(ks:List Kd)(c:Cn):Cn:=ks.foldr (Ie op) c
def wi(op:Int)(ks:B6)(c:Cn):Hc 271 [.int .i64 op,.sl .none (ks.map Ak),Ad c] (Ad (C9 op ks c)):=by
 refine Hf Bhk fun Am Q hQ=>?_;have B5:ks.length<=1073741824:=by simpa[Bl,AV.fits,A1]using Am.2.1.1
 clear Am;simp[Ad,Au (n:=(ks.length:Int)-1) Aa Aa];refine WL [0] (fun n f h G=>∃m:Nat,n=m/\m<=ks.length/\f 7= .int .i64 ((m:Int)-1)/\h 0=Ag (C9 op (ks.drop m) c)/\G=[]) (ks.length) Ab ⟨ks.length,rfl,Bm _,rfl,by simp[Fs,C9],rfl⟩ ?_;rintro n f h G ⟨m,Iu,hm,h7,h0,rfl⟩ Q2 Aj;simp[h7,h0];by_cases Af:1<=m
 . have Cc:(0:Int)<=(m:Int)-1:=by omega
   have Se:(1:Int)<=(m:Int):=Aa;have hk:m-1<ks.length:=Aa;have e1:((m:Int)-1).toNat=m-1:=Aa;have hg:ks[m-1]? =some ks[m-1]:=Il hk;have hd:=Ct hk;have Sf:m-1+1=m:=Aa;rw[Sf]at hd;simp[Se];refine Wd ?_;simp[e1,hk,Se];refine Da (wb op ks[m-1] (C9 op (ks.drop m) c)) ?_;simp[Ad,Au (n:=(m:Int)-1-1) Aa Aa];refine Aj (Fo (n-1) (fun _=>Ag (Ie op ks[m-1] (C9 op (ks.drop m) c))) rfl Aa Ab ?_);refine⟨m-1,Aa,Aa,?_,?_,rfl⟩
   . simp;omega
   rw[hd]; rfl
 have Cc:¬(0:Int)<=(m:Int)-1:=by omega
 obtain rfl:m=0:=Aa;simp;refine Aj (Lx ?_);simp;exact hQ (by simp[Ad])
def St.ltB{F:Addr->Prop}{g:Gh}{w:World}(hs:St F g H w){b B:Nat}(h:g.blk b=some B):b<H.length/\B<w.heap.size:=by
 have hb:b<H.length:=by
  rcases E8 b H.length with hb|hb
  . exact hb
  rw[(hs.beyond b hb).1]at h;cases h
 refine⟨hb,?_⟩;have hg:=Il hb
 cases hx:H[b]with
 |var cs=>
  obtain⟨B',vs,e,q1,q2,q3,_⟩:=hs.var b cs (by rw[hg,hx]);rw[q1]at h;cases h
  exact D1 q3
 |tvar e cs=>
  obtain⟨B',vs,q1,q2,q3,_⟩:=hs.tvar b e cs (by rw[hg,hx]);rw[q1]at h;cases h
  exact D1 q3
 |tok n k ty=>
  obtain⟨B',cap,vs,e,fr,q1,q2,q3,_⟩:=hs.tok b n k _ (by rw[hg,hx]);rw[q1]at h;cases h
  exact D1 q3
 |mp ks=>
  rcases hs.mp b _ (by rw[hg,hx])with⟨_,q1,_⟩|⟨B',es,ck,q1,q2,q3,_⟩
  . rw[q1]at h;cases h
  rw[q1]at h;cases h;exact D1 q3
def C7.suffix{P:Program}{f:FuncId}{args:Ao}{H':Ai}{res:AV}(h:C7 P f args H res H')(hl:H'.length=H.length)(ha:A0 H.length args=true)(A8:Be H.length H=true)(L:Ai):C7 P f args (H++L) res (H'++L):=by
 refine⟨h.1,fun F g w vs hG hs hr=>?_⟩;let g0:Gh:=⟨fun b=>if b<H.length then g.blk b else none,fun b=>if b<H.length then g.tk b else none⟩;have e1:∀b,b<H.length->g0.blk b=g.blk b/\g0.tk b=g.tk b:=fun b hb=>⟨Ae hb,Ae hb⟩;have e2:∀b,¬b<H.length->g0.blk b=none/\g0.tk b=none:=fun b hb=>⟨Ac hb,Ac hb⟩
 have e3:∀b B,g0.blk b=some B->b<H.length/\g.blk b=some B:=fun b B hb=>by
  by_cases Af:b<H.length
  . exact⟨Af,by rw[<- (e1 b Af).1]; exact hb⟩
  rw[(e2 b Af).1]at hb;cases hb
 have Ij:St F g0 H w:=by
  refine⟨hs.live,fun b hb=>e2 b Aa,fun b b' B h1 h2=>hs.inj b b' B (e3 b B h1).2 (e3 b' B h2).2,fun b cs hb=>?_,fun t n k ty ht=>?_,hs.spots,fun b e cs hb=>?_,fun b ks hb=>?_⟩
  . have Af:=(List.getElem?_eq_some_iff.1 hb).1;obtain⟨B,us,e,q1,q2,q3,q4,q5⟩:=hs.var b cs (by rw[D5 Af]; exact hb);exact⟨B,us,e,(e1 b Af).1.trans q1,(e1 b Af).2.trans q2,q3,N7 e1 _ _ (ku A8 b cs hb) q4,q5⟩
  . have Af:=(List.getElem?_eq_some_iff.1 ht).1;obtain⟨B,cap,us,e,fr,q1,q2,q3⟩:=hs.tok t n k _ (by rw[D5 Af]; exact ht);exact⟨B,cap,us,e,fr,(e1 t Af).1.trans q1,(e1 t Af).2.trans q2,q3⟩
  . have Af:=(List.getElem?_eq_some_iff.1 hb).1;obtain⟨B,us,q1,q2,q3,q4,q5⟩:=hs.tvar b e cs (by rw[D5 Af]; exact hb);exact⟨B,us,(e1 b Af).1.trans q1,(e1 b Af).2.trans q2,q3,N7 e1 _ _ (kw A8 b e cs hb) q4,q5⟩
  have Af:=(List.getElem?_eq_some_iff.1 hb).1;rcases hs.mp b _ (by rw[D5 Af]; exact hb)with⟨q0,q1,q2⟩|⟨B,es,ck,q1,q2,q3⟩
  . exact .inl ⟨q0,(e1 b Af).1.trans q1,(e1 b Af).2.trans q2⟩
  exact .inr ⟨B,es,ck,(e1 b Af).1.trans q1,(e1 b Af).2.trans q2,q3⟩
 refine(h.2 F g0 w vs hG Ij (N7 e1 _ _ ha hr)).mono ?_;rintro e w' ⟨v,F',g',rfl,hv,Cv,hx⟩;let g2:Gh:=⟨fun b=>if b<H.length then g'.blk b else g.blk b,fun b=>if b<H.length then g'.tk b else g.tk b⟩;have d1:∀b,b<H.length->g2.blk b=g'.blk b/\g2.tk b=g'.tk b:=fun b hb=>⟨Ae hb,Ae hb⟩;have d2:∀b,¬b<H.length->g2.blk b=g.blk b/\g2.tk b=g.tk b:=fun b hb=>⟨Ac hb,Ac hb⟩;have Cc:∀b B,g'.blk b=some B->b<H.length:=fun b B hb=>by have:=(Cv.ltB hb).1;omega
 have le1:g'.le g2:=by
  refine⟨fun b B h1 h2=>?_,fun t m c h1=>?_⟩
  . have hb:=d1 b (Cc b B h1);exact⟨hb.1.trans h1,hb.2.trans h2⟩
  have ht:t<H.length:=by
   rcases E8 t H.length with ht|ht
   . exact ht
   rw[(Cv.beyond t Aa).2]at h1;cases h1
  have hb:=d1 t ht;exact⟨m,c,hb.2.trans h1,Bm _,fun _=>⟨rfl,hb.1⟩⟩
 have le2:g.le g2:=by
  refine⟨fun b B h1 h2=>?_,fun t m c h1=>?_⟩
  . by_cases hb:b<H.length
    . obtain⟨p,q⟩:=hx.gh.blk b B ((e1 b hb).1.trans h1) ((e1 b hb).2.trans h2);exact⟨(d1 b hb).1.trans p,(d1 b hb).2.trans q⟩
    exact⟨(d2 b hb).1.trans h1,(d2 b hb).2.trans h2⟩
  by_cases ht:t<H.length
  . obtain⟨m',c',p,q,r⟩:=hx.gh.tk t m c ((e1 t ht).2.trans h1);refine⟨m',c',(d1 t ht).2.trans p,q,fun e=>?_⟩;obtain⟨r1,r2⟩:=r e;exact⟨r1,(d1 t ht).1.trans (r2.trans (e1 t ht).1)⟩
  exact⟨m,c,(d2 t ht).2.trans h1,Bm _,fun _=>⟨rfl,(d2 t ht).1⟩⟩
 have K1:Fi F' g' w' F' g2 w':=⟨fun _ h=>h,fun _ _=>rfl,le1⟩;have K2:Fi F g w F' g2 w':=⟨hx.sub,hx.keep,le2⟩
 have hfr:∀b B,¬b<H.length->g.blk b=some B->w'.heap[B]? =w.heap[B]?:=fun b B hb h1=>by
  refine hx.frame B (hs.ltB h1).2 fun b' hb' h2=>?_;have:=hs.inj b b' B h1 (e3 b' B h2).2;omega
 have Oi:∀b B off,¬b<H.length->g.blk b=some B->¬F ⟨B,off,none⟩->¬F' ⟨B,off,none⟩:=fun b B off hb h1 h2 h3=>by
  rcases hx.new _ h3 with h|h|⟨t,ht,_,h⟩
  . exact h2 h
  . have:=(hs.ltB h1).2;simp only at h;omega
  have:=hs.inj b t B h1 (e3 t B h).2;omega
 refine⟨v,F',g2,rfl,R.mono K1 res v hv,⟨Cv.live,fun b hb=>?_,fun b b' B h1 h2=>?_,fun b cs hb=>?_,fun t n k ty ht=>?_,Cv.spots,fun b e cs hb=>?_,fun b ks hb=>?_⟩,⟨hx.sub,hx.keep,le2,hx.size,fun B hB hn=>?_,fun a ha=>?_,fun b B hb h1=>?_,by simp;omega,hx.io⟩⟩
 . simp only[Po,hl]at hb;have hb':¬b<H.length:=Aa;have:=hs.beyond b (by simpa using hb);exact⟨(d2 b hb').1.trans this.1,(d2 b hb').2.trans this.2⟩
 . have cross:∀b b',b<H.length->¬b'<H.length->g'.blk b=some B->g.blk b'=some B->False:=fun b b' hb hb' q1 q2=>by
    rcases hx.blks b B Aa q1 with⟨_,q3⟩|q3
    . have:=hs.inj b b' B (e3 b B q3).2 q2;omega
    have:=(hs.ltB q2).2;omega
   by_cases hb:b<H.length<;>by_cases hb':b'<H.length
   . rw[(d1 b hb).1]at h1;rw[(d1 b' hb').1]at h2;exact Cv.inj b b' B h1 h2
   . rw[(d1 b hb).1]at h1;rw[(d2 b' hb').1]at h2;exact(cross b b' hb hb' h1 h2).elim
   . rw[(d2 b hb).1]at h1;rw[(d1 b' hb').1]at h2;exact(cross b' b hb' hb h2 h1).elim
   rw[(d2 b hb).1]at h1;rw[(d2 b' hb').1]at h2;exact hs.inj b b' B h1 h2
 . by_cases Af:b<H.length
   . rw[D5 Aa]at hb;obtain⟨B,us,e,q1,q2,q3,q4,q5⟩:=Cv.var b cs hb;exact⟨B,us,e,(d1 b Af).1.trans q1,(d1 b Af).2.trans q2,q3,RL.mono K1 _ _ q4,q5⟩
   rw[Hj Aa,hl]at hb;obtain⟨B,us,e,q1,q2,q3,q4,q5⟩:=hs.var b cs (by rw[Hj Aa]; exact hb);exact⟨B,us,e,(d2 b Af).1.trans q1,(d2 b Af).2.trans q2,(hfr b B Af q1).trans q3,RL.mono K2 _ _ q4,fun off=>Oi b B off Af q1 (q5 off)⟩
 . by_cases Af:t<H.length
   . rw[D5 Aa]at ht;obtain⟨B,cap,us,e,fr,q1,q2,q3⟩:=Cv.tok t n k _ ht;exact⟨B,cap,us,e,fr,(d1 t Af).1.trans q1,(d1 t Af).2.trans q2,q3⟩
   rw[Hj Aa,hl]at ht;obtain⟨B,cap,us,e,fr,q1,q2,q3,q4,q5,q6⟩:=hs.tok t n k _ (by rw[Hj Aa]; exact ht);exact⟨B,cap,us,e,fr,(d2 t Af).1.trans q1,(d2 t Af).2.trans q2,(hfr t B Af q1).trans q3,q4,q5,fun off ho=>Oi t B off Af q1 (q6 off ho)⟩
 . by_cases Af:b<H.length
   . rw[D5 Aa]at hb;obtain⟨B,us,q1,q2,q3,q4,q5⟩:=Cv.tvar b e cs hb;exact⟨B,us,(d1 b Af).1.trans q1,(d1 b Af).2.trans q2,q3,RL.mono K1 _ _ q4,q5⟩
   rw[Hj Aa,hl]at hb;obtain⟨B,us,q1,q2,q3,q4,q5⟩:=hs.tvar b e cs (by rw[Hj Aa]; exact hb);exact⟨B,us,(d2 b Af).1.trans q1,(d2 b Af).2.trans q2,(hfr b B Af q1).trans q3,RL.mono K2 _ _ q4,fun off=>Oi b B off Af q1 (q5 off)⟩
 . by_cases Af:b<H.length
   . rw[D5 Aa]at hb;rcases Cv.mp b _ hb with⟨q0,q1,q2⟩|⟨B,es,ck,q1,q2,q3,q4⟩
     . exact .inl ⟨q0,(d1 b Af).1.trans q1,(d1 b Af).2.trans q2⟩
     exact .inr ⟨B,es,ck,(d1 b Af).1.trans q1,(d1 b Af).2.trans q2,q3,q4⟩
   rw[Hj Aa,hl]at hb;rcases hs.mp b _ (by rw[Hj Aa]; exact hb)with⟨q0,q1,q2⟩|⟨B,es,ck,q1,q2,q3,q4⟩
   . exact .inl ⟨q0,(d2 b Af).1.trans q1,(d2 b Af).2.trans q2⟩
   exact .inr ⟨B,es,ck,(d2 b Af).1.trans q1,(d2 b Af).2.trans q2,(hfr b B Af q1).trans q3,q4⟩
 . exact hx.frame B hB fun b hb h2=>hn b (by simp;omega) (e3 b B h2).2
 . rcases hx.new a ha with h|h|⟨t,ht,q1,q2⟩
   . exact .inl h
   . exact .inr (.inl h)
   exact .inr (.inr ⟨t,by simp;omega,by rw[<- (e1 t ht).2]; exact q1,(e3 t _ q2).2⟩)
 by_cases Af:b<H.length
 . rw[(d1 b Af).1]at h1;rcases hx.blks b B Aa h1 with⟨_,q⟩|q
   . exact .inl ⟨by simp;omega,(e3 b B q).2⟩
   exact .inr q
 rw[(d2 b Af).1]at h1;exact .inl ⟨(hs.ltB h1).1,h1⟩
@[simp] def Atz(A B:Ai):(A++B)[A.length]? =B[0]?:=by rw[Hj (Bm _)]; congr 1;omega
@[simp] def At0(A B:Ai)(j:Nat):(A++B)[A.length+j]? =B[j]?:=by
 rw[Hj Aa]; congr 1;omega
@[simp] def Bo5(A B:Ai)(j:Nat)(x:HB):(A++B).set (A.length+j) x=A++B.set j x:=by
 rw[qg _ _ Aa]; congr 2;omega
def Nh(n:Nat):∀(A B:List HB),Be n (A++B)=(Be n A&&Be n B)
 | [],B=>by simp[Be]
 | .var cs::A,B=>by simp[Be,Nh n A B,Ya]
 | .tvar _ cs::A,B=>by simp[Be,Nh n A B,Ya]
 | .tok _ _ _::A,B=>by simp[Be,Nh n A B]
 | .mp _::A,B=>by simp[Be,Nh n A B]
def vh{A L0:Ai}{V:Nat->Bool}(hA:∀b,b<A.length->∃cs,A[b]? =some (.var cs))(hV:∀b,b<A.length->V b=true)(h:Ev V (A++L0) H):∃L,H=A++L:=by
 have hg:∀b,b<A.length->H[b]? =A[b]?:=fun b hb=>by
  obtain⟨cs,B7⟩:=hA b hb;rw[B7];exact h b cs (hV b hb) (by rw[D5 hb]; exact B7)
 refine⟨H.drop A.length,?_⟩;apply Tq;intro b;by_cases hb:b<A.length
 . rw[D5 hb,hg b hb]
 rw[Hj Aa,ei];congr 1;omega
def Bar(A:Ai)(x y:HB)(L:Ai):Ev (fun b=>b != A.length) (A++x::L) (A++y::L):=by
 intro b cs hV hb;by_cases Af:b<A.length
 . rw[D5 Af]at hb ⊢; exact hb
 have Bg:b≠A.length:=by simpa using hV
 rw[Hj Aa]at hb ⊢;obtain⟨j,hj⟩:∃j,b-A.length=j+1:=⟨b-A.length-1,Aa⟩;rw[hj,Ts]at hb ⊢;exact hb
def Tp{e:TypeId}{P:Program}{V:Nat->Bool}{nq:Ck}{H0:Ai}{n:Nat}(A G:Ai)(hH:H=A++G){tok:Dh}{els:List Ao}{k:Nat}{row:Ao}{dst:Option Nat}{l:B8}{kf:I7}{Q:Co}{t:Ao}(h:owns A.length G tok els k)(hl:els.length+1<=A1)(hk:D3 k els=true)(hr:row.length=k)
 (hn:∀tok' G',owns A.length G' tok' (els++[row]) k->G.length<=G'.length->DR P V nq H0 (n+1) l kf Q (Cd t dst (.sl tok' (els++[row]))) (A++G')):Zu P V nq H0 n (Ey k e tok els [row] H) dst l kf Q t:=by
 subst hH;exact Yb h hl hk hr hn
structure Yd (lf:Nat) (cap:List AV) (A:List HB) (L:Cn->Int->Cn):Prop where
 call:∀c bd,HP lf ([Ad c,.int .i64 bd]++cap) A (Ad (L c bd)) A
 vars:∀b,b<A.length->∃cs,A[b]? =some (.var cs)
 sc:∀n,A.length<=n->Be n A=true
 csc:∀n,A.length<=n->A0 n cap=true
 strip:Ce cap=cap
 size:∀c bd,Al (L c bd)<=1000000000000
def K8(d fr:Int)(c:Cn)(bd:Int):Cn:=if c.op=1/\fr<=IntKind.i64.wrap (c.n-bd)then Ch (IntKind.i64.wrap (c.n+d))else W5 c
def Br8(c:Cn)(bd d fr:Int)(A:Ai)(i j:Nat)(hi:A[i]? =some (.var [.int .i64 fr]))(hj:A[j]? =some (.var [.int .i64 d]))(A8:Be A.length A=true):
 HP 243 [Ad c,.int .i64 bd,.ptr i 0,.ptr j 0] A (Ad (K8 d fr c bd)) A:=by
 have Jj:=(List.getElem?_eq_some_iff.1 hi).1;have Ge:=(List.getElem?_eq_some_iff.1 hj).1;have Fa:∀L:Ai,(A++L)[i]? =some (.var [.int .i64 fr]):=fun L=>by rw[D5 Jj]; exact hi
 have Sc:∀L:Ai,(A++L)[j]? =some (.var [.int .i64 d]):=fun L=>by rw[D5 Ge]; exact hj
 refine Hg Bkk fun Q hQ=>?_;simp[Ad,Ap c,Cb];by_cases h1:c.op=1
 . by_cases h2:fr<=IntKind.i64.wrap (c.n-bd)
   . simp[h1,Fa,h2,Sc];refine Ca (A2c (IntKind.i64.wrap (c.n+d))) ?_;simp[Ad];exact hQ (by simp[K8,h1,h2,Ad,A8])
   simp[h1,Fa,h2];refine Ca (xn c) ?_ (he:=by simp[Ad,Ap,h1]);simp[Ad];exact hQ (by simp[K8,h1,h2,Ad,A8])
 simp[h1];refine Ca (xn c) ?_;simp[Ad];exact hQ (by simp[K8,h1,Ad,A8])
def Agd(d fr:Int)(A:Ai)(A8:∀n,A.length<=n->Be n A=true):HP 171 [.int .i64 d,.int .i64 fr] A (.fn (.func 243) [] [.ptr (A.length+1) 0,.ptr A.length 0]) (A++[.var [.int .i64 d],.var [.int .i64 fr]]):=by
 have h2:=A8 (A.length+2) Aa;refine Hg Bkj fun Q hQ=>?_;simp;exact hQ (by simp[Nh,h2])
mutual
def Ep(L:Cn->Int->Cn):Cn->Int->Int->Cn×Int
 | .mk o n s k ns l,bd,left=>if left<=0 then(A3, -1)else if o=1\/o=2 then(L (.mk o n s k ns l) bd,left-Al (L (.mk o n s k ns l) bd))else
  (.mk o n s k ns (Ec L l (if Bw o=true then IntKind.i64.wrap (bd+1)else bd) (left-1)).1,(Ec L l (if Bw o=true then IntKind.i64.wrap (bd+1)else bd) (left-1)).2)
def Ec(L:Cn->Int->Cn):List Cn->Int->Int->List Cn×Int
 | [],_,left=>([],left)
 |c::cs,bd,left=>((Ep L c bd left).1::(Ec L cs bd (Ep L c bd left).2).1,(Ec L cs bd (Ep L c bd left).2).2)
end
def Hp(op bd:Int):Int:=if Bw op=true then IntKind.i64.wrap (bd+1)else bd
def Ae7(L:Cn->Int->Cn)(c:Cn)(bd left:Int):Ep L c bd left=if left<=0 then(A3, -1)else if c.op=1\/c.op=2 then(L c bd,left-Al (L c bd))else
 (.mk c.op c.n c.s c.k c.names (Ec L c.l (Hp c.op bd) (left-1)).1,(Ec L c.l (Hp c.op bd) (left-1)).2):=by
 cases c;rw[Ep]; rfl
mutual
def Azq(L:Cn->Int->Cn)(hL:∀c bd,Al (L c bd)<=1000000000000):∀(c:Cn) (bd left:Int), -1000000000000<=left->left<=20000->-1000000000000<=(Ep L c bd left).2/\(Ep L c bd left).2<=20000
 | .mk o n s k ns l,bd,left,h1,h2=>by
   rw[Ep];split
   . simp
   split
   . have:=hL (.mk o n s k ns l) bd;simp only;omega
   exact Ae9 L hL l _ (left-1) Aa Aa
def Ae9(L:Cn->Int->Cn)(hL:∀c bd,Al (L c bd)<=1000000000000):∀(l:List Cn) (bd left:Int), -1000000000000<=left->left<=20000->-1000000000000<=(Ec L l bd left).2/\(Ec L l bd left).2<=20000
 | [],_,_,h1,h2=>⟨h1,h2⟩
 |c::cs,bd,left,h1,h2=>by
  rw[Ec];have:=Azq L hL c bd left h1 h2;exact Ae9 L hL cs bd _ this.1 this.2
end
def Az1(L:Cn->Int->Cn):∀(l:List Cn) (c:Cn) (bd left:Int),Ec L (l++[c]) bd left=((Ec L l bd left).1++[(Ep L c bd (Ec L l bd left).2).1],(Ep L c bd (Ec L l bd left).2).2)
 | [],c,bd,left=>by simp[Ec]
 |x::xs,c,bd,left=>by rw[Gb,Ec,Az1 L xs c bd,Ec]; simp
def Azy(L:Cn->Int->Cn):∀(l:List Cn) (bd left:Int),(Ec L l bd left).1.length=l.length
 | [],_,_=>rfl
 |x::xs,bd,left=>by rw[Ec]; simp[Azy L xs]
def Br6(lf:Nat)(cap:Ao)(A:Ai)(L:Cn->Int->Cn)(hL:Yd lf cap A L)(c:Cn)(bd left:Int)(S6: -1000000000000<=left)(S7:left<=20000)
 (A6:∀x∈c.l,∀bd left, -1000000000000<=left->left<=20000->HP 172 [.ptr A.length 0,Ad x,.int .i64 bd] (A++[.var [.fn (.func lf) [] cap,.int .i64 left]]) (Ad (Ep L x bd left).1) (A++[.var [.fn (.func lf) [] cap,.int .i64 (Ep L x bd left).2]])):
 HP 172 [.ptr A.length 0,Ad c,.int .i64 bd] (A++[.var [.fn (.func lf) [] cap,.int .i64 left]]) (Ad (Ep L c bd left).1) (A++[.var [.fn (.func lf) [] cap,.int .i64 (Ep L c bd left).2]]):=by
 have key:=Ae7 L c bd left;have Ik:=hL.sc (A.length+1) Aa;have E7:=hL.csc (A.length+1) Aa;refine Hf Bkf fun Am Q hQ=>?_;have hf:=Mv (c:=c) (by simpa[Bl,Ad,AV.fits]using Am.2.1);have B5:c.l.length<=1073741824:=hf.2.2.2.2.2.2.2.1;clear Am hf;simp[-Az,Ad,Ap c];rw[Az];simp[-Az];by_cases h0:left<=0
 . rw[Ae h0]at key;simp[h0];exact hQ (by simp[key,Ad,E9,Nh,Ik,E7])
 rw[Ac h0]at key;simp[h0];by_cases h1:c.op=1\/c.op=2
 . rw[Ae h1]at key;have Cl:=hL.size c bd;have hgo:∀(K:Prop),(c.op=1->K)->(c.op=2->K)->K:=fun K a b=>h1.elim a b;refine hgo _ (fun h=>?_) (fun h=>?_)
   all_goals
    simp[h,Cb];refine Wd ?_;simp;refine py (r:=Ad (L c bd)) (fun H hH=>?_) ?_
    . obtain⟨M,rfl⟩:=vh hL.vars (fun _ _=>rfl) hH;have:=(hL.call c bd).suffix rfl (by simp[A0,hL.csc _ (Bm _)]) (hL.sc _ (Bm _)) M;simpa[Ad,Ap c,h]using this
    simp[Ad];refine Wd ?_;simp;refine Da (k8 (L c bd) Cl) ?_;simp[Au (n:=left-Al (L c bd)) Aa Aa];exact hQ (by simp[key,Ad,Nh,Ik,E7])
 rw[Ac h1]at key;have h1a:¬c.op=1:=fun h=>h1 (.inl h);have h1b:¬c.op=2:=fun h=>h1 (.inr h);obtain⟨ub,M9⟩:∃ub,ub=Hp c.op bd:=⟨_,rfl⟩;rw[<- M9]at key
 have hB:(Bw c.op=false/\bd=ub)\/(Bw c.op=true/\IntKind.i64.wrap (bd+1)=ub):=by
  rw[M9,Hp]; cases Bw c.op<;>simp
 clear M9;simp[h1a,h1b,Cb,Au (n:=left-1) Aa Aa];refine Wd ?_;simp;refine Da (Aga c.k) ?_;simp;refine Da (dy c.names) ?_;simp[Ba,Df c.k];refine Ca (pa c) ?_;have i6: -1000000000000<=left-1:=Aa;have hl4:left-1<=20000:=Aa;generalize left-1=lf1 at key i6 hl4 ⊢;rcases hB with⟨hB,M9⟩|⟨hB,M9⟩
 all_goals
  simp[hB,M9]
  refine Ip (A9.loopI [A.length,A.length+3] (fun n f h G=>∃k tok,k+n=c.l.length/\f 72= .int .i64 (k:Nat)/\h A.length=[.fn (.func lf) [] cap,.int .i64 (Ec L (c.l.take k) ub lf1).2]/\
   h (A.length+3)=[.int .i64 c.op,.int .i64 c.n,.str c.s,.sl .none (c.k.l.map Ak),.sl .none (At c.names),.sl tok ((Ec L (c.l.take k) ub lf1).1.map Ag)]/\
   owns (A.length+4) G tok ((Ec L (c.l.take k) ub lf1).1.map Ag) 6) c.l.length Ab ⟨0,.nilT,Ab,rfl,by simp[Fs,Ec],by simp[Fs,Ec],Fp _ _ _⟩ ?_)
  rintro n f h G ⟨k,tok,hk,h72,hm,ho,Bt⟩;refine Ru fun Q2 Aj=>?_;simp[h72,hm,ho];by_cases Af:k<c.l.length
  . have iu:=Ae9 L hL.size (c.l.take k) ub lf1 i6 hl4;have A6:=A6 c.l[k] (Cy _) ub (Ec L (c.l.take k) ub lf1).2 iu.1 iu.2
    have hts:Ec L (c.l.take (k+1)) ub lf1=((Ec L (c.l.take k) ub lf1).1++[(Ep L c.l[k] ub (Ec L (c.l.take k) ub lf1).2).1],(Ep L c.l[k] ub (Ec L (c.l.take k) ub lf1).2).2):=by
     rw[Nj _ _ Af,Az1]
    have hlen:=Azy L (c.l.take k) ub lf1;rw[eo]at hlen;simp[Af];refine Ty (fun b=>b != A.length) [5] Bc ?_;simp;refine Ql (first:=[]) (cap:=[]) (r:=Ad (Ep L c.l[k] ub (Ec L (c.l.take k) ub lf1).2).1) (by simpa[Ad]using A6.suffix Ab (by simp[A0,AV.inScope]) (by simp[Nh,Be,A0,AV.inScope,Ik,E7]) _) (Bar A _ _ _) ?_;simp[Ad,Dx];refine Tp (A++[_,_,_,_]) (G++[_]) (by simp only[Ow,Gb,Gx]; rfl) (by simpa using Lv Bt) (by simp[A1]; omega) (Ea _ _ Iq) Ab fun tok' G' Bv Ei=>?_;simp[Au (n:=(k:Int)+1) Aa Aa];refine Aj (Fo (n-1) (fun b=>if b=A.length then [.fn (.func lf) [] cap,.int .i64 (Ec L (c.l.take (k+1)) ub lf1).2]else [.int .i64 c.op,.int .i64 c.n,.str c.s,.sl .none (c.k.l.map Ak),.sl .none (At c.names),.sl tok' ((Ec L (c.l.take (k+1)) ub lf1).1.map Ag)]) (G':=G') (by simp[hts]) Aa Ab ?_);refine⟨k+1,tok',Aa,Ab,Ab,Ab,?_⟩;rw[hts];simpa using Bv
  have Dk:c.l.take k=c.l:=Gj Aa;rw[Dk]at hm ho Bt;simp[Af,Dk];refine Aj (Lx ?_);simp;exact hQ (by simp[key,Ad,Fj,Nh,Ik,E7])
def Agb(lf:Nat)(cap:Ao)(A:Ai)(L:Cn->Int->Cn)(hL:Yd lf cap A L)(c:Cn)(bd left:Int)(S6: -1000000000000<=left)(S7:left<=20000):
 HP 172 [.ptr A.length 0,Ad c,.int .i64 bd] (A++[.var [.fn (.func lf) [] cap,.int .i64 left]]) (Ad (Ep L c bd left).1) (A++[.var [.fn (.func lf) [] cap,.int .i64 (Ep L c bd left).2]]):=
 Br6 lf cap A L hL c bd left S6 S7 fun x _ bd left h1 h2=>Agb lf cap A L hL x bd left h1 h2
termination_by SizeOf.sizeOf c
decreasing_by exact Cn.lt_l ‹_›
section
attribute [-simp] Int.not_lt Int.not_le
attribute [local simp] Cb Cq
def Yd.more{lf:Nat}{cap:Ao}{A:Ai}{L:Cn->Int->Cn}(h:Yd lf cap A L)(M:Ai)(hv:∀b,b<M.length->∃cs,M[b]? =some (.var cs))(hs:∀n,A.length+M.length<=n->Be n M=true):Yd lf cap (A++M) L where
 call c bd:=(h.call c bd).suffix rfl (by simp[A0,h.csc _ (Bm _)]) (h.sc _ (Bm _)) M
 vars b hb:=by
  by_cases Af:b<A.length
  . rw[D5 Af]; exact h.vars b Af
  rw[Hj Aa];exact hv _ (by simp at hb;omega)
 sc n hn:=by
  simp only[Po]at hn;rw[Nh,h.sc n Aa,hs n hn]; rfl
 csc n hn:=h.csc n (by simp at hn;omega)
 strip:=h.strip
 size:=h.size
def Abx(h:C0 c=true)(ho:c.op=1):0<=c.n/\c.n<=20000:=by
 rw[Mu]at h;simp only[Ht,Bb]at h;have h2:=h.1.2.1;simp only[n2,ho,true_or,Bp,Mn,ef,Bj]at h2;omega
def sy{x:Cn}(h:C0 c=true)(hx:x∈c.l):C0 x=true:=by
 rw[Mu]at h;simp only[Bb,Pn]at h;exact h.2 x hx
def Brz(m:Nat)(cap:Ao)(A:Ai)(A8:∀n,A.length<=n->Be n A=true)(Dv:∀n,A.length<=n->A0 n cap=true)
 (Gy:∀(c:Cn) (bd:Int),(c.op=1->0<=c.n/\c.n<=20000)->0<=bd->bd<=1000->HP m ([Ad c,.int .i64 bd]++cap) A (.tup []) A)
 (c:Cn) (bd:Int) (Me:C0 c=true) (h0:0<=bd) (hd:bd+Bo c<=1000)
 (A6:∀x∈c.l,∀bd:Int,0<=bd->bd+Bo x<=1000->HP 219 [Ad x,.int .i64 bd,.fn (.func m) [] cap] A (.tup []) A):
 HP 219 [Ad c,.int .i64 bd,.fn (.func m) [] cap] A (.tup []) A:=by
 have Jk:=A8 A.length (Bm _);have Xl:=Dv A.length (Bm _);have Gy:=fun(L:Ai)=>(Gy c bd (Abx Me) h0 Aa).suffix rfl (by simp[A0,Xl]) Jk L;have Xm:=Jt c;refine Hf Axh fun Am Q hQ=>?_;have hf:=Mv (c:=c) (by simpa[Bl,Ad,AV.fits]using Am.1);have B5:c.l.length<=1073741824:=hf.2.2.2.2.2.2.2.1;clear Am hf
 have hB:(Bw c.op=false/\bd=Hp c.op bd)\/(Bw c.op=true/\IntKind.i64.wrap (bd+1)=Hp c.op bd):=by
  rw[Hp]; cases Bw c.op<;>simp
 have M9:0<=Hp c.op bd/\Hp c.op bd<=bd+1:=by
  rw[Hp]; split
  . rw[Au Aa Aa]; omega
  omega
 generalize Hp c.op bd=ub at hB M9;simp[-Az,Ad,Ap c];rw[Az];simp[-Az];refine Gc (fun f=>True) (fun Q' hn hr=>?_) (fun f hI=>?_)
 . simp;have hn2:∀t' (e:Jp _ _ _=t'),Q' .normal t' _:=fun t' e=>hn t' e trivial;clear hn;cases e1:decide (c.op=1)
   . simp;cases e2:decide (c.op=2)
     . simp;exact hn2 _ Ab
     simp;refine N5 (first:=[]) (r:=.tup []) (by simpa[Ad,Ap c]using Gy [.var (Ag c)]) ?_;simp;exact hn2 _ Ab
   simp;refine N5 (first:=[]) (r:=.tup []) (by simpa[Ad,Ap c]using Gy [.var (Ag c)]) ?_;simp;exact hn2 _ Ab
 simp[-Az];refine Gc (fun f=>f 1= .int .i64 ub) (fun Q' hn hr=>?_) (fun f hI=>?_)
 . simp;refine Ca (pa c) ?_;rcases hB with⟨hB,e⟩|⟨hB,e⟩
   . simp[hB];refine hn _ Ab ?_;simp[e]
   simp[hB];refine hn _ Ab ?_;simp[e]
 clear Gy;simp[hI];refine WL [] (fun n f h G=>∃k:Nat,k+n=c.l.length/\f 27= .int .i64 k) (c.l.length) Ab ⟨0,Ab,rfl⟩ ?_;rintro n f h G ⟨k,hk,ai⟩ Q2 Aj;simp[ai];by_cases Af:k<c.l.length
 . have hdm:=Yq (Cy Af);have hr:=A6 c.l[k] (Cy _) ub M9.1 Aa;simp[Af];refine C1 (r:=.tup []) (by simpa[Ad,Ap c]using hr.suffix rfl (by simp[A0,AV.inScope,Xl]) Jk (.var (Ag c)::(G++[.var (Ag c.l[k])]))) ?_;simp[Au (n:=(k:Int)+1) Aa Aa];refine Aj (Fo (n-1) h (G':=G++[.var (Ag c.l[k])]) Ab Aa Ab ?_);exact⟨k+1,Aa,Ab⟩
 simp[Af];refine Aj (Lx ?_);simp;exact hQ
def A18(m:Nat)(cap:Ao)(A:Ai)(A8:∀n,A.length<=n->Be n A=true)(Dv:∀n,A.length<=n->A0 n cap=true)
 (Gy:∀(c:Cn) (bd:Int),(c.op=1->0<=c.n/\c.n<=20000)->0<=bd->bd<=1000->HP m ([Ad c,.int .i64 bd]++cap) A (.tup []) A)
 (c:Cn) (bd:Int) (Me:C0 c=true) (h0:0<=bd) (hd:bd+Bo c<=1000):
 HP 219 [Ad c,.int .i64 bd,.fn (.func m) [] cap] A (.tup []) A:=
 Brz m cap A A8 Dv Gy c bd Me h0 hd fun x hx bd h0 hd=>A18 m cap A A8 Dv Gy x bd (sy Me hx) h0 hd
termination_by SizeOf.sizeOf c
decreasing_by exact Cn.lt_l ‹_›
mutual
def Azu(L:Cn->Int->Cn):∀(c:Cn) (bd left:Int),0<=(Ep L c bd left).2->(Al (Ep L c bd left).1:Int)=left-(Ep L c bd left).2
 | .mk o n s k ns l,bd,left,h=>by
   rw[Ep]at h ⊢;split
   . rename_i hc;rw[Ae hc]at h;simp at h
   rename_i hc;rw[Ac hc]at h;split
   . simp only;omega
   rename_i Of;rw[Ac Of]at h;have:=Az0 L l _ (left-1) h;simp only[Al];omega
def Az0(L:Cn->Int->Cn):∀(l:List Cn) (bd left:Int),0<=(Ec L l bd left).2->(Bd (Ec L l bd left).1:Int)=left-(Ec L l bd left).2
 | [],bd,left,h=>by simp[Ec,Bd]
 |c::cs,bd,left,h=>by
  rw[Ec]at h ⊢;have h1:=Az0 L cs bd (Ep L c bd left).2 h
  have h2:0<=(Ep L c bd left).2:=by
   rcases Int.lt_or_le (Ep L c bd left).2 0 with hn|hn
   . have:=Afa L cs bd _ hn;simp only at h;omega
   exact hn
  have h3:=Azu L c bd left h2;simp only[Bd];omega
def Afa(L:Cn->Int->Cn):∀(l:List Cn) (bd left:Int),left<0->(Ec L l bd left).2<0
 | [],bd,left,h=>h
 |c::cs,bd,left,h=>by
  rw[Ec];exact Afa L cs bd _ (by rw[Ae7,Ae Aa]; simp)
end
def Ki(L:Cn->Int->Cn)(c:Cn):Cn×Int:=if(Ep L c 0 20000).2<0\/Ar (Ep L c 0 20000).1=false then(A3,6)else((Ep L c 0 20000).1,0)
def Agc(lf:Nat)(cap:Ao)(A:Ai)(L:Cn->Int->Cn)(hL:Yd lf cap A L)(c:Cn):HP 167 [Ad c,.fn (.func lf) [] cap] A (Bf (Ki L c)) A:=by
 have hL2:=hL.more [.var (Ag c),.var [.int .i64 0,.int .i64 0,.str [],.sl .nilT [],.sl .nilT [],.sl .nilT []]] (fun b hb=>by
  match b,hb with
  |0,_=>exact⟨_,rfl⟩
  |1,_=>exact⟨_,rfl⟩) (fun n _=>by simp[Be,A0,D9,AV.inScope])
 have hb:=Agb lf cap _ L hL2 c 0 20000 Aa Aa;have iu:=Azq L hL.size c 0 20000 Aa Aa;have Cl:=Azu L c 0 20000;have Jk:=hL.sc A.length (Bm _);simp only[Po,Gq,Ox,Ow,Gb,Gx]at hb;obtain⟨r,lf2,hr⟩:∃r lf2,Ep L c 0 20000=(r,lf2):=⟨_,_,rfl⟩;simp only[hr]at hb iu Cl;have Ok:Ki L c=if lf2<0\/Ar r=false then(A3,6)else(r,0):=by rw[Ki,hr]
 refine Hg Bkh fun Q hQ=>?_;simp[Ad];refine C1 (r:=Ad r) (by simpa[Ad,E9]using hb) ?_;simp[Ad];by_cases h1:lf2<0
 . rw[Ae (.inl h1)]at Ok;simp[h1];exact hQ (by simp[Ok,Bf,Ad,E9,Jk])
 simp[h1];refine Ca (Lc r (by have:=Cl Aa;omega)) ?_;cases hv:Ar r
 . rw[Ae (.inr hv)]at Ok;simp;exact hQ (by simp[Ok,Bf,Ad,E9,Jk])
 rw[Ac (by simp[h1,hv])]at Ok;simp;exact hQ (by simp[Ok,Bf,Ad,Jk])
def Brq(c:Cn)(bd d fr:Int)(A:Ai)(i j k:Nat)(hi:A[i]? =some (.var [.int .i64 fr]))(hj:A[j]? =some (.var [.int .i64 d]))(A8:Be A.length A=true)
 (Ii:c.op=1->fr<=IntKind.i64.wrap (c.n-bd)->¬IntKind.i64.wrap (IntKind.i64.wrap (c.n-bd)+d)<fr):
 HP 220 [Ad c,.int .i64 bd,.ptr i 0,.ptr j 0,.ptr k 0] A (.tup []) A:=by
 have Jj:=(List.getElem?_eq_some_iff.1 hi).1;have Ge:=(List.getElem?_eq_some_iff.1 hj).1;have Fa:∀L:Ai,(A++L)[i]? =some (.var [.int .i64 fr]):=fun L=>by rw[D5 Jj]; exact hi
 have Sc:∀L:Ai,(A++L)[j]? =some (.var [.int .i64 d]):=fun L=>by rw[D5 Ge]; exact hj
 refine Hg Axg fun Q hQ=>?_;simp[Ad,Ap c];by_cases h1:c.op=1
 . by_cases h2:fr<=IntKind.i64.wrap (c.n-bd)
   . have h3:=Ii h1 h2;simp[h1,Fa,Sc,h2,h3];exact hQ
   simp[h1,Fa,h2];exact hQ
 simp[h1];exact hQ
def A0r(d fr:Int)(c:Cn)(bd:Int):Al (K8 d fr c bd)=1:=by
 unfold K8;split
 . simp[Ch,Al,Bd]
 simp[W5,Al,Bd]
def Afk(d fr:Int)(A:Ai)(i j:Nat)(hi:A[i]? =some (.var [.int .i64 fr]))(hj:A[j]? =some (.var [.int .i64 d]))(hv:∀b,b<A.length->∃cs,A[b]? =some (.var cs))(hs:∀n,A.length<=n->Be n A=true):
 Yd 243 [.ptr i 0,.ptr j 0] A (K8 d fr) where
 call c bd:=Br8 c bd d fr A i j hi hj (hs _ (Bm _))
 vars:=hv
 sc:=hs
 csc n hn:=by
  have h1:=(List.getElem?_eq_some_iff.1 hi).1;have h2:=(List.getElem?_eq_some_iff.1 hj).1;simp[A0,AV.inScope]; omega
 strip:=by simp[Ce,AV.strip]
 size c bd:=by rw[A0r]; omega
def Ed(c:Cn)(d fr:Int):Cn×Int:=if Ar c=true then Ki (K8 d fr) c else(A3,1)
def Zp(c:Cn)(d fr:Int)(hc:Al c<=1000000000000)(Lh:0<=d)(hd:d<=20000)(Sa:0<=fr)(hf1:fr<=1000000000):
 Hc 134 [Ad c,.int .i64 d,.int .i64 fr] (Bf (Ed c d fr)):=by
 refine Hg j7 fun Q hQ=>?_;simp[Ad];refine Ca (Lc c hc) ?_;cases hv:Ar c
 . have e:Ed c d fr=(A3,1):=by simp[Ed,hv]
   simp;exact hQ (by simp[e,Bf,Ad,E9])
 have key:Ed c d fr=Ki (K8 d fr) c:=by simp[Ed,hv]
 have Me:C0 c=true:=by simp only[Ar,Bb]at hv;exact hv.2.2
 have Xm:Bo c<=400:=by simp only[Ar,Bb,Aw]at hv;exact hv.2.1
 have a1:¬fr<0:=Aa;have a2:¬d < -20000:=Aa;have a3:¬20000<d:=Aa
 have Y3:=A18 220 [.ptr 2 0,.ptr 1 0,.ptr 4 0]
  [.var (Ag c),.var [.int .i64 d],.var [.int .i64 fr],.var [.int .i64 0,.int .i64 0,.str [],.sl .nilT [],.sl .nilT [],.sl .nilT []],.var [.bool false]]
  (fun n _=>by simp[Be,A0,D9,AV.inScope]) (fun n hn=>by simp only[Gq,Ox]at hn;simp[A0,AV.inScope]; omega)
  (fun c bd hn h0 hb=>Brq c bd d fr _ 2 1 4 rfl rfl (by simp[Be,A0,D9,AV.inScope]) (fun ho h=>by
   have:=hn ho;have e1:IntKind.i64.wrap (c.n-bd)=c.n-bd:=Au Aa Aa;have e2:IntKind.i64.wrap (c.n-bd+d)=c.n-bd+d:=Au Aa Aa;rw[e1]at h ⊢;rw[e2]
   omega)) c 0 Me Aa Aa
 simp[a1,a2,a3];refine C1 (r:=.tup []) (by simpa[Ad]using Y3) ?_;simp;refine Ty (fun _=>true) [3,4,8] Bc ?_;simp
 have Br:HP 171 [.int .i64 d,.int .i64 fr] [.var (Ag c),.var [.int .i64 d],.var [.int .i64 fr],.var [.int .i64 0,.int .i64 0,.str [],.sl .nilT [],.sl .nilT [],.sl .nilT []],.var [.bool false]]
  (.fn (.func 243) [] [.ptr 6 0,.ptr 5 0])
  [.var (Ag c),.var [.int .i64 d],.var [.int .i64 fr],.var [.int .i64 0,.int .i64 0,.str [],.sl .nilT [],.sl .nilT [],.sl .nilT []],.var [.bool false],.var [.int .i64 d],.var [.int .i64 fr]]:=
  Agd d fr _ (fun n _=>by simp[Be,A0,D9,AV.inScope])
 refine Ql (first:=[]) (cap:=[]) Br (fun b cs _ hb=>E4 (L:=[_,_]) hb) ?_;simp
 have Ok:=Agc 243 [.ptr 6 0,.ptr 5 0]
  [.var (Ag c),.var [.int .i64 d],.var [.int .i64 fr],.var [.int .i64 0,.int .i64 0,.str [],.sl .nilT [],.sl .nilT [],.sl .nilT []],.var [.bool false],.var [.int .i64 d],.var [.int .i64 fr]] _
  (Afk d fr _ 6 5 rfl rfl (fun b hb=>by
   match b,hb with
   |0,_=>exact⟨_,rfl⟩
   |1,_=>exact⟨_,rfl⟩
   |2,_=>exact⟨_,rfl⟩
   |3,_=>exact⟨_,rfl⟩
   |4,_=>exact⟨_,rfl⟩
   |5,_=>exact⟨_,rfl⟩
   |6,_=>exact⟨_,rfl⟩) (fun n _=>by simp[Be,A0,D9,AV.inScope])) c
 refine Ql (first:=[]) (cap:=[]) (by simpa[Ad]using Ok) (fun b cs _ hb=>E4 (L:=[_,_]) hb) ?_;simp[Bf,Ad];exact hQ (by simp[key,Bf,Ad])
end
def qx:Prop:=∀(op:Int) (ks:List Kd) (c:Cn),Hc 256 [.int .i64 op,.sl .none (ks.map Ak),Ad c] (Ad (C9 op ks c))
def G6(c:Cn):Cn×Int:=if Ar c=true then(c,0)else(A3,6)
def gn(c:Cn)(hc:Al c<=1000000000000):Hc 255 [Ad c] (Bf (G6 c)):=by
 refine Hg Bde fun Q hQ=>?_;simp[Ad];refine Ca (Lc c hc) ?_;cases hv:Ar c
 . simp;exact hQ (by simp[G6,hv,Bf,Ad,E9])
 simp;exact hQ (by simp[G6,hv,Bf,Ad])
def Sv(c:Cn):Cn×Int:=if(Ed c 1 0).2=0 then(E3 12 (Ch 0) (Ed c 1 0).1,0)else(A3,6)
def Asq(c:Cn)(hc:Al c<=1000000000000):Hc 66 [Ad c] (Bf (Sv c)):=by
 refine Hg Bdc fun Q hQ=>?_;simp[Ad];refine Ca (Zp c 1 0 hc Aa Aa Aa Aa) ?_;generalize he:Ed c 1 0=p;obtain⟨x,e⟩:=p;simp[Bf,Ad];by_cases h:e=0
 . simp[h];exact hQ (by simp[Sv,he,h,Bf,Ad,E3,Ch,Fj,Pi,Kd.l_mk])
 have h2:(e != 0)=true:=by simpa using h
 simp[h2];exact hQ (by simp[Sv,he,h,Bf,Ad,E9])
def Bn0{L:Cn->Int->Cn}(h:(Ki L c).2=0):Ar (Ki L c).1=true:=by
 unfold Ki at h ⊢;split
 . rename_i hc;rw[Ae hc]at h;simp at h
 rename_i hc;simp only[Jo,xz]at hc;exact hc.2
def Afl{d fr:Int}(h:(Ed c d fr).2=0):Ar (Ed c d fr).1=true:=by
 unfold Ed at h ⊢;split
 . rename_i hc;rw[Ae hc]at h;exact Bn0 h
 rename_i hc;rw[Ac hc]at h;simp at h
def Ari{c:Cn}(h:(G6 c).2=0):Ar (G6 c).1=true:=by
 unfold G6 at h ⊢;split
 . rename_i hc;exact hc
 rename_i hc;rw[Ac hc]at h;simp at h
def A2k:Ar Ys=true:=Di
def S1(o:Int)(c:Cn)(k:Kd)(ks more:List Kd)(names:List (List UInt8))(parts:List Cn):Cn×Int:=
 if o=1 then Ed c 0 0
 else if o=2 then(if(Sv c).2=0 then G6 (Ie 9 (Sj k (.mk [])) (E3 6 (Sv c).1 (Sv c).1))else(A3,(Sv c).2))
 else if o=3 then(Ys,0)
 else if o=4 then(if(G6 (C9 10 ks (parts.headD A3))).2=0 then G6 (E3 6 (G6 (C9 10 ks (parts.headD A3))).1 (Ed (G6 (C9 10 ks (parts.headD A3))).1 0 0).1)else(A3,(G6 (C9 10 ks (parts.headD A3))).2))
 else if o=5 then G6 (.mk 7 0 [] (.mk []) names parts)
 else G6 (C9 9 ks (E3 6 (parts.headD A3) (C9 10 more (parts.getD 1 A3))))
mutual
def enc:Sm->Cn×Int
 | .mk o _ _ c k ks more names l=>if(G8 l).2=0 then S1 o c k ks more names (G8 l).1 else(A3,(G8 l).2)
def G8:List Sm->List Cn×Int
 | []=>([],0)
 |x::xs=>if(enc x).2=0 then((enc x).1::(G8 xs).1,(G8 xs).2)else([],(enc x).2)
end
def Asn(s:Sm):enc s=if(G8 s.l).2=0 then S1 s.op s.con s.k s.ks s.more s.names (G8 s.l).1 else(A3,(G8 s.l).2):=by
 cases s;rw[enc]; rfl
def A8d{o:Int}{k:Kd}{ks more:B6}{names:List Bu}{parts:Ax}(h:(S1 o c k ks more names parts).2=0):Ar (S1 o c k ks more names parts).1=true:=by
 unfold S1 at h ⊢
 (repeat' split)<;>simp_all[Afl,Ari,A2k]
def Asp{s:Sm}(h:(enc s).2=0):Ar (enc s).1=true:=by
 rw[Asn]at h ⊢;split
 . rename_i hc;rw[Ae hc]at h;exact A8d h
 rename_i hc;rw[Ac hc]at h;exact absurd h hc
def Ast:∀l:List Sm,(G8 l).2=0->∀x∈(G8 l).1,Ar x=true
 | [],_,x,hx=>by simp[G8]at hx
 |y::ys,h,x,hx=>by
  rw[G8]at h hx;split at hx
  . rename_i hc;rw[Ae hc]at h;simp only[Pp]at hx;rcases hx with rfl|hx
    . exact Asp hc
    exact Ast ys h x hx
  rename_i hc;rw[Ac hc]at h;exact absurd h hc
def rc(op:Int)(ks:B6)(c:Cn):Al (C9 op ks c)=ks.length+Al c:=by
 unfold C9
 induction ks with
 |nil=>simp
 |cons k ks ih=>simp[Ie,Al,Bd,ih]; omega
def A7j(l:Ax)(h:∀x∈l,Ar x=true):Bd l<=20000*l.length:=by
 induction l with
 |nil=>simp[Bd]
 |cons c l ih=>
  have h1:=Kn (h c Ab);have h2:=ih fun x hx=>h x (by simp[hx]);simp only[Bd,Gq]; omega
def Qk:Sm->Prop
 | .mk o n s c k ks more names l=>Cp (.mk o n s c k ks more names l)=true/\∀x∈l,Qk x
def X9(s:Sm):Qk s↔Cp s=true/\∀x∈s.l,Qk x:=by
 cases s;rw[Qk]; rfl
def Tw{e:TypeId}{P:Program}(A G:Ai)(hH:H=A++G){tok:Dh}{els:List Ao}{k:Nat}{row:Ao}{dst:Option Nat}{l:B8}{kf:I7}{Q:Co}{t:Ao}(h:owns A.length G tok els k)(hl:els.length+1<=A1)(hk:D3 k els=true)(hr:row.length=k)
 (hn:∀tok' G',owns A.length G' tok' (els++[row]) k->G.length<=G'.length->I1 P l kf Q (Cd t dst (.sl tok' (els++[row]))) (A++G')):ew P (Ey k e tok els [row] H) dst l kf Q t:=by
 subst hH;exact Ss h hl hk hr hn
def dw(h:Ar c=true):Al c<=1000000000000:=by have:=Kn h;omega
def U2{s:Sm}(h:Cp s=true):(s.op=1\/s.op=2\/s.op=3\/s.op=4\/s.op=5\/s.op=6)/\(s.op=4->s.l.length=1)/\(s.op=6->s.l.length=2)/\(s.op=5->s.names.length<=1000/\s.names.length=s.l.length):=by
 simp only[Cp,m1,Bb]at h;have hr:=h.1.1;unfold Hh at hr;refine⟨?_,fun ho=>?_,fun ho=>?_,fun ho=>?_⟩
 . by_cases h1:s.op=1\/s.op=2\/s.op=3
   . omega
   rw[Ac h1]at hr;by_cases h2:s.op=4
   . omega
   rw[Ac h2]at hr;by_cases h3:s.op=6
   . omega
   rw[Ac h3]at hr;by_cases h4:s.op=5
   . omega
   rw[Ac h4]at hr;cases hr
 . rw[Ac Aa,Ae ho]at hr;rcases hl:s.l with _|⟨a,_|⟨b,r⟩⟩
   . rw[hl]at hr;cases hr
   . rfl
   rw[hl]at hr;cases hr
 . rw[Ac Aa,Ac Aa,Ae ho]at hr;rcases hl:s.l with _|⟨a,_|⟨b,_|⟨c,r⟩⟩⟩
   . rw[hl]at hr;cases hr
   . rw[hl]at hr;cases hr
   . rfl
   rw[hl]at hr;cases hr
 rw[Ac Aa,Ac Aa,Ac Aa,Ae ho]at hr;simp only[Bb,Aw]at hr;refine⟨hr.1,?_⟩;by_cases hn:s.names.length=s.l.length
 . exact hn
 rw[Vq _ _ _ hn]at hr;simp at hr
def sm(op:Int)(a b:Cn):Al (E3 op a b)=1+(Al a+Al b):=by simp[E3,Al,Bd]
def A7i(op:Int)(k:Kd)(a:Cn):Al (Ie op k a)=1+Al a:=by simp[Ie,Al,Bd]
def oq{c:Cn}{d fr:Int} :Al (Ed c d fr).1<=20000:=by
 by_cases h:(Ed c d fr).2=0
 . exact Kn (Afl h)
 have:(Ed c d fr).1=A3:=by
  unfold Ed Ki at h ⊢
  (repeat' split)<;>simp_all
 rw[this]; decide
def A4b{c:Cn}(h:(Sv c).2=0):Al (Sv c).1<=20002:=by
 unfold Sv at h ⊢;split
 . rename_i hs;have:=Kn (Afl hs);rw[sm];have:Al (Ch 0)=1:=Bc;omega
 rename_i hs;rw[Ac hs]at h;simp at h
def A8g(hu:qx)(s:Sm)(hc:Dd s)(hw:Qk s)(A6:∀x∈s.l,Hc 254 [An x] (Bf (enc x))):
 Hc 254 [An s] (Bf (enc s)):=by
 have B7:=((Ju s).1 hc).1;have hn:=((X9 s).1 hw).1;have key0:=Asn s;refine Hf Bdg fun Am Q hQ=>?_;have hf:=Rj (c:=s) (by simpa[Bl,An,AV.fits]using Am);have B5:s.l.length<=1073741824:=hf.2.2.2.2.1;clear Am;simp[An,Av s];refine WL [] (fun n f h G=>∃(k:Nat) (tok:Dh) (P:Ax),k+n=s.l.length/\P.length=k/\f 20= .int .i64 k/\f 4= .sl tok (P.map Ag)/\owns 2 G tok (P.map Ag) 6/\(G8 (s.l.drop k)).2=(G8 s.l).2/\P++(G8 (s.l.drop k)).1=(G8 s.l).1) (s.l.length) Ab ⟨0,.nilT,[],Ab,rfl,rfl,rfl,Fp _ _ _,rfl,rfl⟩ ?_;rintro n f h G ⟨k,tok,P,hk,hP,h20,hf4,Bt,Dq,Dz⟩ Q2 Aj;simp[h20,hf4];by_cases Af:k<s.l.length
 . have Fz:=Ct Af;have A6:=A6 s.l[k] (Cy _);rw[Fz,G8]at Dz Dq;simp[Af,Av s.l[k]];refine Ca A6 ?_;generalize enc s.l[k]=p at Dz Dq ⊢;obtain⟨c,e⟩:=p;simp only at Dz Dq;by_cases h0:e=0
   . subst h0;simp only[Bp]at Dz Dq;simp[Bf,Ad,Ap c,Dx];refine Tw [_,_] (G++[_,_]) (by simp only[Gb,Gx]; rfl) (by simpa using Lv Bt) (by simp[A1]; omega) (Ea _ _ Iq) Ab fun tok' G' Bv Ei=>?_;simp[Au (n:=(k:Int)+1) Aa Aa];refine Aj (Ln h ?_);refine⟨k+1,tok',P++[c],Aa,by simp[hP],Ab,by simp[Ap c],by simpa[Ap c]using Bv,Dq,by rw[<- Dz]; simp⟩
   rw[Ac h0]at Dz Dq;simp only at Dz Dq;have h0':(e != 0)=true:=by simpa using h0
   have e1:enc s=(A3,e):=by rw[key0,<-Dq,Ac h0]
   simp[Bf,Ad,Ap c,h0'];refine Aj (Lr ?_);simp;exact hQ (by simp[e1,Bf,Ad,E9])
 have R7:P=(G8 s.l).1:=by rw[<- Dz,Cm Aa]; simp[G8]
 have Ij:(G8 s.l).2=0:=by rw[<- Dq,Cm Aa]; rfl
 rw[Ae Ij,<-R7]at key0;have hPv:=Ast s.l Ij;rw[<- R7]at hPv;have hPl:P.length=s.l.length:=Aa;clear Dz Dq A6 Ij R7;simp[Af];refine Aj (Lx ?_);by_cases h1:s.op=1
 . simp[h1];refine Ca (Zp s.con 0 0 B7 Aa Aa Aa Aa) ?_;rw[S1,Ae h1]at key0;generalize Ed s.con 0 0=p at key0 ⊢;obtain⟨c,e⟩:=p;simp[Bf,Ad,Ap c];exact hQ (by simp[key0,Bf,Ad,Ap c])
 by_cases h2:s.op=2
 . simp[h2];refine Ca (Asq s.con B7) ?_;rw[S1,Ac h1,Ae h2]at key0;have hap:=@A4b s.con;have hcall:=Asq s.con B7;generalize Sv s.con=p at key0 hap hcall ⊢;obtain⟨c,e⟩:=p;simp only at key0 hap;simp[Bf,Ad];by_cases h0:e=0
   case neg=>
    have h0':(e != 0)=true:=by simpa using h0
    rw[Ac h0]at key0;simp[h0'];exact hQ (by simp[key0,Bf,Ad,E9])
   subst h0;rw[Ae rfl]at key0;have hap:=hap rfl;simp;refine Ca hcall ?_;simp[Bf,Ad];refine Ty (fun _=>true) [12] Bc ?_;simp;refine Da (A8i s.k) ?_;simp[Ba];refine Da (Abq c c) ?_;simp[Ad,Dx];have hz:Al (Ie 9 (Sj s.k (.mk [])) (E3 6 c c))<=1000000000000:=by rw[A7i,sm]; omega
   refine Da (gn _ hz) ?_ (he:=by simp[Ad,Ie,Fj,Df,Pi]);generalize G6 (Ie 9 (Sj s.k (.mk [])) (E3 6 c c))=p at key0 ⊢;obtain⟨c',e'⟩:=p;simp[Bf,Ad];exact hQ (by simp[key0,Bf,Ad])
 by_cases h3:s.op=3
 . rw[S1,Ac h1,Ac h2,Ae h3]at key0;simp[h3];refine Ca Bru ?_;simp[Ad];exact hQ (by simp[key0,Bf,Ad])
 by_cases h4:s.op=4
 . rw[S1,Ac h1,Ac h2,Ac h3,Ae h4]at key0;have S6:=(U2 hn).2.1 h4;obtain⟨p,rfl⟩:∃p,P=[p]:=List.length_eq_one_iff.1 Aa;have bo:=hPv p Ab;have key0:enc s=if(G6 (C9 10 s.ks p)).2=0 then G6 (E3 6 (G6 (C9 10 s.ks p)).1 (Ed (G6 (C9 10 s.ks p)).1 0 0).1)else(A3,(G6 (C9 10 s.ks p)).2):=key0;have hz:Al (C9 10 s.ks p)<=1000000000000:=by rw[rc]; have:=Kn bo;have:=hf.2.1;unfold A1 at this;omega
   have hcall:=gn _ hz;have Fb:=@Ari (C9 10 s.ks p);obtain⟨q,hq⟩:∃q,q=G6 (C9 10 s.ks p):=⟨_,rfl⟩;rw[<- hq]at key0 Fb hcall;clear hq;simp[h4];refine Gr (fun _=>true) [] Bc Bc ?_;simp;refine Da (hu 10 s.ks p) ?_;simp[Ad];refine Da hcall ?_;clear hcall;obtain⟨c,e⟩:=q;simp only at key0 Fb;simp[Bf,Ad];refine⟨fun b cs _ hb=>by simpa using E4 (L:=[_]) hb,?_⟩;by_cases h0:e=0
   case neg=>
    have h0':(e != 0)=true:=by simpa using h0
    rw[Ac h0]at key0;simp[h0'];exact hQ (by simp[key0,Bf,Ad,E9])
   subst h0;rw[Ae rfl]at key0;have Fb:=Fb rfl;simp;refine Ca (Zp c 0 0 (dw Fb) Aa Aa Aa Aa) ?_;have Cl:=@oq c 0 0;generalize Ed c 0 0=q at key0 Cl ⊢;obtain⟨c',e'⟩:=q;simp[Bf,Ad];refine Ca (Abq c c') ?_;simp[Ad];have hz:Al (E3 6 c c')<=1000000000000:=by rw[sm]; have:=Kn Fb;have:=Cl;simp only at this;omega
   refine Ca (gn _ hz) ?_;generalize G6 (E3 6 c c')=q at key0 ⊢;obtain⟨c2,e2⟩:=q;simp[Bf,Ad];exact hQ (by simp[key0,Bf,Ad])
 by_cases h5:s.op=5
 . rw[S1,Ac h1,Ac h2,Ac h3,Ac h4,Ae h5]at key0;have hl5:=(U2 hn).2.2.2 h5;simp[h5];refine Ca (dy s.names) ?_;simp;have hz:Al (.mk 7 0 [] (.mk []) s.names P)<=1000000000000:=by simp only[Al]; have:=A7j P hPv;omega
   refine Ca (gn _ hz) ?_ (he:=by simp[Ad,Fj,Kd.l_mk]);generalize G6 (.mk 7 0 [] (.mk []) s.names P)=q at key0 ⊢;obtain⟨c2,e2⟩:=q;simp[Bf,Ad];exact hQ (by simp[key0,Bf,Ad])
 have h6:s.op=6:=by have:=(U2 hn).1;omega
 rw[S1,Ac h1,Ac h2,Ac h3,Ac h4,Ac h5]at key0;have hl6:=(U2 hn).2.2.1 h6;obtain⟨p,q,rfl⟩:∃p q,P=[p,q]:=mv Aa;have bo:=hPv p Ab;have hqv:=hPv q Ab;simp only[Ag7,List.getD_cons_succ,List.getD_cons_zero]at key0
 have hz:Al (C9 9 s.ks (E3 6 p (C9 10 s.more q)))<=1000000000000:=by
  rw[rc,sm,rc]; have:=Kn bo;have:=Kn hqv;have:=hf.2.1;have:=hf.2.2.1;unfold A1 at *; omega
 simp[h6];refine Ty (fun _=>true) [17] Bc ?_;simp;refine Da (hu 10 s.more q) ?_;simp[Ad];refine Da (Abq p (C9 10 s.more q)) ?_;simp[Ad];refine Da (hu 9 s.ks (E3 6 p (C9 10 s.more q))) ?_;simp[Ad];refine Da (gn _ hz) ?_;generalize G6 (C9 9 s.ks (E3 6 p (C9 10 s.more q)))=q at key0 ⊢;obtain⟨c2,e2⟩:=q;simp[Bf,Ad];exact hQ (by simp[key0,Bf,Ad])
def Asr(hu:qx)(s:Sm)(hc:Dd s)(hw:Qk s):Hc 254 [An s] (Bf (enc s)):=
 A8g hu s hc hw fun x hx=>Asr hu x (((Ju s).1 hc).2 x hx) (((X9 s).1 hw).2 x hx)
termination_by SizeOf.sizeOf s
decreasing_by exact Sm.lt_l ‹_›
mutual
def Avo:∀(s:Sm) (left d:Int),(mS s left d).2=true->Qk s
 | .mk o n s c k ks more names l,left,d,h=>by
   rw[mS]at h;split at h
   . cases h
   rename_i hc;rw[Qk];refine⟨?_,Avt l _ _ _ h⟩;cases hn:Cp (.mk o n s c k ks more names l)
   . exact absurd (.inr (.inr hn)) hc
   rfl
def Avt:∀(l:List Sm) (left d n:Int),(F7 l left d n).2=true->∀x∈l,Qk x
 | [],_,_,_,_,x,hx=>by cases hx
 |y::ys,left,d,n,h,x,hx=>by
  rw[F7]at h;split at h
  . rename_i hc;rcases List.mem_cons.1 hx with e|hx
    . rw[e]; exact Avo y _ _ hc
    exact Avt ys _ _ _ h x hx
  cases h
end
def Vr{s:Sm}(h:Cu s=true):Qk s:=Avo s _ _ h
def dv(s:Sm):(K9 s=0)↔Cu s=false:=by
 unfold K9;cases h:Cu s
 . simp
 have:=(cj s 20000 1 h).1;simp;omega
def W8(ks:List Kd)(s:Sm):Cn×Int:=if(enc s).2=0 then G6 (C9 10 ks (enc s).1)else(A3,(enc s).2)
def U5(c:Cn):Cn:=E3 12 (Ch 0) (Dm c 1 0)
mutual
def Ez:Sm->Cn
 | .mk o _ _ c k ks more names l=>if o=1 then c
   else if o=2 then Ie 9 (Sj k (.mk [])) (E3 6 (U5 c) (U5 c))
   else if o=3 then Ys
   else if o=4 then E3 6 (C9 10 ks ((Zl l).headD A3)) (C9 10 ks ((Zl l).headD A3))
   else if o=6 then C9 9 ks (E3 6 ((Zl l).headD A3) (C9 10 more ((Zl l).getD 1 A3)))
   else .mk 7 0 [] (.mk []) names (Zl l)
def Zl:List Sm->List Cn
 | []=>[]
 |x::xs=>Ez x::Zl xs
end
def Ay4(l:O8):Zl l=l.map Ez:=by
 induction l with
 |nil=>rfl
 |cons x xs ih=>rw[Zl,ih]; rfl
def Bnu(s:Sm):Ez s=if s.op=1 then s.con
 else if s.op=2 then Ie 9 (Sj s.k (.mk [])) (E3 6 (U5 s.con) (U5 s.con))
 else if s.op=3 then Ys
 else if s.op=4 then E3 6 (C9 10 s.ks ((s.l.map Ez).headD A3)) (C9 10 s.ks ((s.l.map Ez).headD A3))
 else if s.op=6 then C9 9 s.ks (E3 6 ((s.l.map Ez).headD A3) (C9 10 s.more ((s.l.map Ez).getD 1 A3)))
 else .mk 7 0 [] (.mk []) s.names (s.l.map Ez):=by
 cases s;rw[Ez,Ay4]; rfl
section
attribute [local simp] Cb Cq
def Boz(s:Sm)(hc:Al s.con<=1000000000000):Hc 226 [An s] (.bool (Cp s)):=by
 have hz:=Af8 s.con A3;rw[show Ad A3= .agg [.int .i64 0,.int .i64 0,.str [],.sl .none [],.sl .none [],.sl .none []] by simp[Ad,E9]]at hz;refine Hg Big fun Q hQ=>?_;have f1:m1 s=false->Cp s=false:=fun h=>by rw[Cp,h]; rfl
 have f2:m2 s=false->Cp s=false:=fun h=>by rw[Cp,h]; simp
 have f3:m3 s=false->Cp s=false:=fun h=>by rw[Cp,h]; simp
 have f4:m4 s=false->Cp s=false:=fun h=>by rw[Cp,h]; simp
 have fin5:m1 s=true->m2 s=true->m3 s=true->m4 s=true->Cp s=m5 s:=fun h1 h2 h3 h4=>by rw[Cp,h1,h2,h3,h4]; simp
 simp[-Int.not_lt, -Int.not_le, -Az,An,Av s];rw[Az];simp[-Int.not_lt, -Int.not_le, -Az];refine Gc (fun f=>m1 s=true) (fun Q' hn hr=>?_) (fun f hI=>?_)
 . clear f2 f3 f4 fin5 hz;simp[-Int.not_lt, -Int.not_le]
   repeat' (first |(refine C3 (fun hb=>?_) (fun hb=>?_)<;>(try simp only[bM]at hb)<;>simp[-Int.not_lt, -Int.not_le,hb])|(refine Em (fun hb=>?_) (fun hb=>?_)<;>(try simp only[bM]at hb)<;>simp[-Int.not_lt, -Int.not_le,hb,Hu])|(refine Fh (Bo1 s) Ab Ab (by simp[At,Kd.l,An,Av]) ?_;simp[-Int.not_lt, -Int.not_le]))
   all_goals first
    |(refine hr _ _ ?_;have e:=f1 (by clear hn hr hQ;(try simp only[Aw,Bj]at *); first |(simp[-Int.not_lt, -Int.not_le, *,m1]; done)|(exfalso;omega)|(exfalso;simp_all;done)); simp;refine hQ ?_;simp[e]; done)
    |(refine hn _ Ab ?_;clear hn hr hQ;(try simp only[Aw,Bj]at *); first |(simp[-Int.not_lt, -Int.not_le, *,m1]; done)|(exfalso;omega)|(exfalso;simp_all;done))
 simp[-Int.not_lt, -Int.not_le, -Az];refine Gc (fun f=>m2 s=true) (fun Q' hn hr=>?_) (fun f hI=>?_)
 . clear f1 f3 f4 fin5;cases ho:Dr s.op
   . simp[-Int.not_lt, -Int.not_le]
     repeat' (first |(refine C3 (fun hb=>?_) (fun hb=>?_)<;>(try simp only[bM]at hb)<;>simp[-Int.not_lt, -Int.not_le,hb])|(refine Em (fun hb=>?_) (fun hb=>?_)<;>(try simp only[bM]at hb)<;>simp[-Int.not_lt, -Int.not_le,hb,ho])|(refine Fh (xc s.op) Ab Ab Ab ?_;simp[-Int.not_lt, -Int.not_le,ho])|(refine Fh (hz) Ab Ab (by simp[Ad,Ap,At,Kd.l]) ?_;simp[-Int.not_lt, -Int.not_le]))
     clear hz
     all_goals first
      |(refine hr _ _ ?_;have e:=f2 (by clear hn hr hQ;(try simp only[Aw,Bj]at *); first |(simp[-Int.not_lt, -Int.not_le, *,m2]; done)|(exfalso;omega)|(exfalso;simp_all;done)); simp;refine hQ ?_;simp[e]; done)
      |(refine hn _ Ab ?_;clear hn hr hQ;(try simp only[Aw,Bj]at *); first |(simp[-Int.not_lt, -Int.not_le, *,m2]; done)|(exfalso;omega)|(exfalso;simp_all;done))
   clear hz;simp[-Int.not_lt, -Int.not_le]
   repeat' (first |(refine C3 (fun hb=>?_) (fun hb=>?_)<;>(try simp only[bM]at hb)<;>simp[-Int.not_lt, -Int.not_le,hb,ho])|(refine Em (fun hb=>?_) (fun hb=>?_)<;>(try simp only[bM]at hb)<;>simp[-Int.not_lt, -Int.not_le,hb])|(refine Fh (xc s.op) Ab Ab Ab ?_;simp[-Int.not_lt, -Int.not_le,ho])|(refine Fh (Lc s.con hc) Ab Ab (by simp[Ad,Ap,At,Kd.l]) ?_;simp[-Int.not_lt, -Int.not_le]))
   all_goals first
    |(refine hr _ _ ?_;have e:=f2 (by clear hn hr hQ;(try simp only[Aw,Bj]at *); first |(simp[-Int.not_lt, -Int.not_le, *,m2]; done)|(exfalso;omega)|(exfalso;simp_all;done)); simp;refine hQ ?_;simp[e]; done)
    |(refine hn _ Ab ?_;clear hn hr hQ;(try simp only[Aw,Bj]at *); first |(simp[-Int.not_lt, -Int.not_le, *,m2]; done)|(exfalso;omega)|(exfalso;simp_all;done))
 simp[-Int.not_lt, -Int.not_le, -Az];refine Gc (fun f=>m3 s=true) (fun Q' hn hr=>?_) (fun f hI=>?_)
 . clear f1 f2 f4 fin5 hz;simp[-Int.not_lt, -Int.not_le]
   repeat' (first |(refine C3 (fun hb=>?_) (fun hb=>?_)<;>(try simp only[bM]at hb)<;>simp[-Int.not_lt, -Int.not_le,hb])|(refine Em (fun hb=>?_) (fun hb=>?_)<;>(try simp only[bM]at hb)<;>simp[-Int.not_lt, -Int.not_le,hb])|(refine Fh (ce s.k) Ab Ab (by simp[Ba,Df,Kd.l]) ?_;simp[-Int.not_lt, -Int.not_le]))
   all_goals first
    |(refine hr _ _ ?_;have e:=f3 (by clear hn hr hQ;(try simp only[Aw,Bj]at *); first |(simp[-Int.not_lt, -Int.not_le, *,m3]; done)|(exfalso;omega)|(exfalso;simp_all;done)); simp;refine hQ ?_;simp[e]; done)
    |(refine hn _ Ab ?_;clear hn hr hQ;(try simp only[Aw,Bj]at *); first |(simp[-Int.not_lt, -Int.not_le, *,m3]; done)|(exfalso;omega)|(exfalso;simp_all;done))
 simp[-Int.not_lt, -Int.not_le, -Az];refine Gc (fun f=>m4 s=true) (fun Q' hn hr=>?_) (fun f hI=>?_)
 . clear f1 f2 f3 fin5 hz;simp[-Int.not_lt, -Int.not_le]
   repeat' (first |(refine C3 (fun hb=>?_) (fun hb=>?_)<;>(try simp only[bM]at hb)<;>simp[-Int.not_lt, -Int.not_le,hb])|(refine Em (fun hb=>?_) (fun hb=>?_)<;>(try simp only[bM]at hb)<;>simp[-Int.not_lt, -Int.not_le,hb])|(refine Fh (Acz s.s) Ab Ab Ab ?_;simp[-Int.not_lt, -Int.not_le]))
   all_goals first
    |(refine hr _ _ ?_;have e:=f4 (by clear hn hr hQ;(try simp only[Aw,Bj]at *); first |(simp[-Int.not_lt, -Int.not_le, *,m4]; done)|(exfalso;omega)|(exfalso;simp_all;done)); simp;refine hQ ?_;simp[e]; done)
    |(refine hn _ Ab ?_;clear hn hr hQ;(try simp only[Aw,Bj]at *); first |(simp[-Int.not_lt, -Int.not_le, *,m4]; done)|(exfalso;omega)|(exfalso;simp_all;done))
 have e:=fin5 ‹_› ‹_› ‹_› ‹_›;clear f1 f2 f3 f4 fin5 hz;simp[-Int.not_lt, -Int.not_le];by_cases h4:s.op=4
 . have e4:Cp s=(decide (s.n=0)&&(J1 s.ks&&decide (s.more=[]))):=by rw[e,m5,Ae h4]
   clear e;by_cases hn:s.n=0
   . simp[-Int.not_lt, -Int.not_le,h4,hn];refine Ca (Afi s.ks) ?_;cases hk:J1 s.ks
     . simp[-Int.not_lt, -Int.not_le];exact hQ
     simp[-Int.not_lt, -Int.not_le];exact hQ
   simp[-Int.not_lt, -Int.not_le,h4,hn];exact hQ
 by_cases h6:s.op=6
 . have e4:Cp s=(J1 s.ks&&(J1 s.more&&(decide (s.n=0)||(decide (s.n=1)&&decide (s.more=[]))))):=by rw[e,m5,Ac h4,Ae h6]
   clear e;simp[-Int.not_lt, -Int.not_le,h6];refine Ca (Afi s.ks) ?_;cases hk:J1 s.ks
   . simp[-Int.not_lt, -Int.not_le];exact hQ
   simp[-Int.not_lt, -Int.not_le];refine Ca (Afi s.more) ?_;cases hm:J1 s.more
   . simp[-Int.not_lt, -Int.not_le];exact hQ
   by_cases hn:s.n=0
   . simp[-Int.not_lt, -Int.not_le,hn];exact hQ
   by_cases De:s.n=1
   . simp[-Int.not_lt, -Int.not_le,De];exact hQ
   simp[-Int.not_lt, -Int.not_le,hn,De];exact hQ
 have e4:Cp s=(decide (s.n=0)&&(decide (s.ks=[])&&decide (s.more=[]))):=by rw[e,m5,Ac h4,Ac h6]
 clear e;by_cases hn:s.n=0
 case neg=>
  simp[-Int.not_lt, -Int.not_le,h4,h6,hn];exact hQ
 by_cases hk:s.ks=[]
 . simp[-Int.not_lt, -Int.not_le,h4,h6,hn,hk];exact hQ
 simp[-Int.not_lt, -Int.not_le,h4,h6,hn,hk];exact hQ
end
def Boy(s:Sm)(left depth:Int)(hc:Dd s)(hl0: -1000000<=left)(hl:left<=20000)(Lh:0<=depth)(hd:depth<=1000)
 (A6:∀x∈s.l,∀left depth, -1000000<=left->left<=20000->0<=depth->depth<=1000->Hc 151 [An x,.int .i64 left,.int .i64 depth] (Qh (mS x left depth))):
 Hc 151 [An s,.int .i64 left,.int .i64 depth] (Qh (mS s left depth)):=by
 have B7:=((Ju s).1 hc).1;have key0:=vj s left depth;refine Hf Bie fun Am Q hQ=>?_;have hf:=Rj (c:=s) (by simpa[Bl,An,AV.fits]using Am.1);have B5:s.l.length<=1073741824:=hf.2.2.2.2.1;clear Am hf;simp[An,Av s];by_cases h1:left<=0
 . rw[Ae (.inl h1)]at key0;simp[h1];exact hQ (by simp[key0,Qh])
 by_cases h2:400<depth
 . rw[Ae (.inr (.inl h2))]at key0;simp[h1,h2];exact hQ (by simp[key0,Qh])
 simp[h1,h2];refine Ca (Boz s B7) ?_;cases h3:Cp s
 . rw[Ae (.inr (.inr h3))]at key0;simp;exact hQ (by simp[key0,Qh])
 rw[Ac (by simp[h1,h2,h3])]at key0;simp;refine Ca (xc s.op) ?_
 have hn:∃n0:Int,n0=1+(if Dr s.op=true then(Al s.con:Int)else 0)/\1<=n0/\n0<=20001:=by
  refine⟨_,rfl,?_⟩;split
  . rename_i ho;have:=Ads h3 ho;omega
  omega
 obtain⟨n0,Ns,De,hn2⟩:=hn;rw[<- Ns]at key0
 have loop:∀(b:Bool),Dr s.op=b->(b=true->n0=1+(Al s.con:Int))/\(b=false->n0=1):=fun b hb=>by
  subst hb;rw[Ns]; constructor<;>intro h<;>simp[h]
 cases ho:Dr s.op
 case' false=>obtain rfl:n0=1:=(loop _ ho).2 rfl
 case' true=>
  have P8:=(loop _ ho).1 rfl;simp;refine Ca (k8 s.con B7) ?_;simp[<- P8,Au (n:=n0) Aa Aa]
 case' false=>simp
 all_goals
  clear loop Ns;refine WL [] (fun n f h G=>∃(k:Nat) (m:Int),k+n=s.l.length/\f 35= .int .i64 k/\f 8= .int .i64 m/\1<=m/\m<=20001/\F7 (s.l.drop k) left depth m=mS s left depth) (s.l.length) Ab ⟨0,_,Ab,rfl,rfl,Aa,Aa,by rw[key0]; rfl⟩ ?_;rintro n f h G ⟨k,m,hk,h35,h8,Sf,hm2,hs⟩ Q2 Aj;simp[h35,h8];by_cases Af:k<s.l.length
  . have Fz:=Ct Af;have A6:=A6 s.l[k] (Cy _) (left-m) (depth+1) Aa Aa Aa Aa;simp[Af,Au (n:=left-m) Aa Aa,Au (n:=depth+1) Aa Aa];refine Ca A6 ?_;cases hv:(mS s.l[k] (left-m) (depth+1)).2
    . have e:mS s left depth=(0,false):=by rw[<- hs,Fz,F7,hv]; rfl
      simp[Qh,hv];refine Aj (Lr ?_);simp;exact hQ (by simp[e,Qh])
    have hle:=cj _ _ _ hv;simp[Qh,hv,Au (n:=(k:Int)+1) Aa Aa,Au (n:=m+(mS s.l[k] (left-m) (depth+1)).1) Aa Aa];refine Aj (Ln h ?_);refine⟨k+1,_,Aa,Ab,by simp;rfl,Aa,Aa,?_⟩;rw[<- hs,Fz,F7,Ae hv]
  have e:mS s left depth=(m,decide (m<=left)):=by rw[<- hs,Cm Aa,F7]
  simp[Af];refine Aj (Lx ?_);simp;exact hQ (by simp[e,Qh])
def Afj(s:Sm)(left depth:Int)(hc:Dd s)(hl0: -1000000<=left)(hl:left<=20000)(Lh:0<=depth)(hd:depth<=1000):Hc 151 [An s,.int .i64 left,.int .i64 depth] (Qh (mS s left depth)):=
 Boy s left depth hc hl0 hl Lh hd fun x hx left depth h1 h2 h3 h4=>Afj x left depth (((Ju s).1 hc).2 x hx) h1 h2 h3 h4
termination_by SizeOf.sizeOf s
decreasing_by exact Sm.lt_l ‹_›
def dt(s:Sm)(hc:Dd s):Hc 90 [An s] (.int .i64 (K9 s)):=by
 refine Hg Bh3 fun Q hQ=>?_;simp[An];refine Ca (Afj s 20000 1 hc Aa Aa Aa Aa) ?_;cases h:(mS s 20000 1).2
 . simp[Qh,h];exact hQ (by simp[K9,Cu,h])
 simp[Qh,h];exact hQ (by simp[K9,Cu,h])
def du(s:Sm)(hc:Dd s):Hc 154 [An s] (.bool (Cu s)):=by
 refine Hg Bia fun Q hQ=>?_;simp[An];refine Ca (Afj s 20000 1 hc Aa Aa Aa Aa) ?_;simp[Qh];exact hQ (by simp[Cu])
def A8e(hu:qx)(ks:B6)(s:Sm)(hc:Dd s)(hw:Qk s)(hk:ks.length<=1000):Hc 186 [C8 ks s] (Bf (W8 ks s)):=by
 refine Hg Bdb fun Q hQ=>?_;simp[C8,Av s];refine Ca (Asr hu s hc hw) ?_;have hv:=@Asp s;have e:W8 ks s=if(enc s).2=0 then G6 (C9 10 ks (enc s).1)else(A3,(enc s).2):=rfl;generalize enc s=p at e hv ⊢;obtain⟨c,r⟩:=p;simp only at e hv;simp[Bf,Ad];by_cases h0:r=0
 case neg=>
  have h0':(r != 0)=true:=by simpa using h0
  rw[Ac h0]at e;simp[h0'];exact hQ (by simp[e,Bf,Ad,E9])
 subst h0;rw[Ae rfl]at e;have hv:=hv rfl;have hz:Al (C9 10 ks c)<=1000000000000:=by rw[rc]; have:=Kn hv;omega
 simp;refine Ca (hu 10 ks c) ?_;simp[Ad];refine Ca (gn _ hz) ?_;generalize G6 (C9 10 ks c)=q at e ⊢;obtain⟨c2,e2⟩:=q;simp[Bf,Ad];exact hQ (by simp[e,Bf,Ad])
def Bmd(c:Cn):Hc 310 [Ad c] (Ad (U5 c)):=by
 refine Hg Bhm fun Q hQ=>?_;simp[Ad];refine Wd ?_;simp;refine Da (Aek 0) ?_;simp[Ad];refine Da (dd c 1 0) ?_;simp[Ad];refine Da (Bk7 (Ch 0) (Dm c 1 0)) ?_;simp[Ad];exact hQ (by simp[U5,Ad])
def wsS(s:Sm):Prop:=(s.op=1\/s.op=2\/s.op=3\/s.op=4\/s.op=5\/s.op=6)/\(s.op=4->s.l.length=1)/\(s.op=6->s.l.length=2)
def Sp:Sm->Prop
 | .mk o n s c k ks more names l=>wsS (.mk o n s c k ks more names l)/\∀x∈l,Sp x
def xv(s:Sm):Sp s↔wsS s/\∀x∈s.l,Sp x:=by
 cases s;rw[Sp]; rfl
def pm(s:Sm)(h:Qk s):Sp s:=by
 have hn:=(X9 s).1 h;have hs:=U2 hn.1;rw[xv];exact⟨⟨hs.1,hs.2.1,hs.2.2.1⟩,fun x hx=>pm x (hn.2 x hx)⟩
termination_by SizeOf.sizeOf s
decreasing_by exact Sm.lt_l ‹_›
def Bmc(s:Sm)(hw:Sp s)(A6:∀x∈s.l,Hc 272 [An x] (Ad (Ez x))):
 Hc 272 [An s] (Ad (Ez s)):=by
 have hn:=((xv s).1 hw).1;have key0:=Bnu s;refine Hf Bhl fun Am Q hQ=>?_;have hf:=Rj (c:=s) (by simpa[Bl,An,AV.fits]using Am);have B5:s.l.length<=1073741824:=hf.2.2.2.2.1;clear Am hf;by_cases h1:s.op=1
 . rw[Ae h1]at key0;simp[An,Av s,h1];exact hQ (by simp[key0,Ad,Ap s.con])
 by_cases h2:s.op=2
 . rw[Ac h1,Ae h2]at key0;simp[An,Av s,h2];refine Ca (Bmd s.con) ?_;simp[Ad];refine Wd ?_;simp;refine Da (Bmh s.k) ?_;simp[Ba];refine Da (Aeh (U5 s.con) (U5 s.con)) ?_;simp[Ad];refine Da (wb 9 (Sj s.k (.mk [])) (E3 6 (U5 s.con) (U5 s.con))) ?_;simp[Ad];exact hQ (by simp[key0,Ad])
 by_cases h3:s.op=3
 . rw[Ac h1,Ac h2,Ae h3]at key0;simp[An,Av s,h3];refine Ca Blg ?_;simp[Ad];exact hQ (by simp[key0,Ad])
 by_cases h4:s.op=4
 . rw[Ac h1,Ac h2,Ac h3,Ae h4]at key0;obtain⟨a,ha⟩:=tj (hn.2.1 h4);rw[ha]at key0;simp only[F8,Ag7]at key0;simp[An,Av s,h4,ha];refine Wd ?_;simp;refine Da (A6 a (by simp[ha])) ?_;simp[Ad];refine Da (wi 10 s.ks (Ez a)) ?_;simp[Ad];refine Ca (Aeh (C9 10 s.ks (Ez a)) (C9 10 s.ks (Ez a))) ?_;simp[Ad];exact hQ (by simp[key0,Ad])
 by_cases h6:s.op=6
 . rw[Ac h1,Ac h2,Ac h3,Ac h4,Ae h6]at key0;obtain⟨a,b,ha⟩:=mv (hn.2.2 h6);rw[ha]at key0;simp only[F8,Ag7,List.getD_cons_succ,List.getD_cons_zero]at key0;simp[An,Av s,h6,ha];refine Wd ?_;simp;refine Da (A6 a (by simp[ha])) ?_;simp[Ad];refine Da (A6 b (by simp[ha])) ?_;simp[Ad];refine Da (wi 10 s.more (Ez b)) ?_;simp[Ad];refine Da (Aeh (Ez a) (C9 10 s.more (Ez b))) ?_;simp[Ad];refine Da (wi 9 s.ks (E3 6 (Ez a) (C9 10 s.more (Ez b)))) ?_;simp[Ad];exact hQ (by simp[key0,Ad])
 have h5:s.op=5:=by have:=hn.1;omega
 rw[Ac h1,Ac h2,Ac h3,Ac h4,Ac h6]at key0;obtain⟨l',Ci⟩:∃l',l'=s.l.map Ez:=⟨_,rfl⟩;have hlen:l'.length=s.l.length:=by rw[Ci]; simp
 have Lj:∀k (h:k<s.l.length) (h':k<l'.length),l'[k]=Ez s.l[k]:=fun k h h'=>by simp[Ci]
 rw[<- Ci]at key0;clear Ci;simp[An,Av s,h5];refine WL [2] (fun n f h G=>∃(k:Nat) (tok:Dh),k+n=s.l.length/\f 6= .int .i64 k/\h 2=[.int .i64 7,.int .i64 0,.str [],.sl .nilT [],.sl .none (At s.names),.sl tok ((l'.map Ag).take k)]/\owns 3 G tok ((l'.map Ag).take k) 6) (s.l.length) Ab ⟨0,.nilT,Ab,rfl,by simp[Fs],Fp _ _ _⟩ ?_;rintro n f h G ⟨k,tok,hk,hf6,hh2,Bt⟩ Q2 Aj;simp[hf6,hh2];by_cases Af:k<s.l.length
 . have A6:=A6 s.l[k] (Cy _);have Cc:k<l'.length:=Aa;rw[<- Lj k Af Cc]at A6;simp[Af];refine Wd ?_;simp[Af];refine Da A6 ?_;simp[Ad,Dx];refine Yb (A:=[_,_,_]) Bt (by simp[A1]; omega) (P7 (Ea _ _ Iq)) Ab fun tok' G' Bv Ei=>?_;simp[Au (n:=(k:Int)+1) Aa Aa];refine Aj (Fo (n-1) (fun _=>[.int .i64 7,.int .i64 0,.str [],.sl .nilT [],.sl .none (At s.names),.sl tok' ((l'.map Ag).take k++[Ag l'[k]])]) rfl Aa Ab ?_)
   have e:(l'.map Ag).take (k+1)=(l'.map Ag).take k++[Ag l'[k]]:=by
    rw[Nj _ _ (by simpa using Cc)]; simp
   refine⟨k+1,tok',Aa,Ab,?_,?_⟩
   . rw[e]
   rw[e]; exact Bv
 have Dk:(l'.map Ag).take k=l'.map Ag:=Gj (by simp;omega);simp[Af];refine Aj (Lx ?_);simp[Dk];exact hQ (by simp[key0,Ad,Fj,Kd.l_mk])
def Ayk(s:Sm)(hw:Sp s):Hc 272 [An s] (Ad (Ez s)):=
 Bmc s hw fun x hx=>Ayk x (((xv s).1 hw).2 x hx)
termination_by SizeOf.sizeOf s
decreasing_by exact Sm.lt_l ‹_›
def Bmb(ks:B6)(s:Sm)(hw:Sp s):Hc 202 [C8 ks s] (Ad (C9 10 ks (Ez s))):=by
 refine Hg Bhj fun Q hQ=>?_;simp[C8,Av s];refine Wd ?_;simp;refine Da (Ayk s hw) ?_;simp[Ad];refine Da (wi 10 ks (Ez s)) ?_;simp[Ad];exact hQ (by simp[Ad])
section
attribute [-simp] Int.not_lt Int.not_le
attribute [local simp] Cb Cq
mutual
def Do(l:List Cn):Cn->Int->Cn
 | .mk o n s k ns cl,d=>if o=1 then(if n<d then .mk o n s k ns cl else if IntKind.i64.wrap (n-d)<l.length then Dm (l.getD (IntKind.i64.wrap (n-d)).toNat A3) d 0 else Ch (IntKind.i64.wrap (n-l.length)))else .mk o n s k ns (Ri l cl (if Bw o=true then IntKind.i64.wrap (d+1)else d))
def Ri(l:List Cn):List Cn->Int->List Cn
 | [],_=>[]
 |c::cs,d=>Do l c d::Ri l cs d
end
def Bny(l cl:Ax)(d:Int):Ri l cl d=cl.map fun x=>Do l x d:=by
 induction cl with
 |nil=>rfl
 |cons c cl ih=>simp[Ri,ih]
def Azc(l:Ax)(c:Cn)(d:Int):Do l c d=if c.op=1 then(if c.n<d then c else if IntKind.i64.wrap (c.n-d)<l.length then Dm (l.getD (IntKind.i64.wrap (c.n-d)).toNat A3) d 0 else Ch (IntKind.i64.wrap (c.n-l.length)))else .mk c.op c.n c.s c.k c.names (c.l.map fun x=>Do l x (if Bw c.op=true then IntKind.i64.wrap (d+1)else d)):=by
 cases c;rw[Do,Bny]; rfl
def Blp(l:Ax)(c:Cn)(d:Int)(h0:0<=d)(hd:d+Bo c<=1000000000)(A6:∀x∈c.l,∀d:Int,0<=d->d+Bo x<=1000000000->Hc 198 [Ad x,.sl .none (l.map Ag),.int .i64 d] (Ad (Do l x d))):
 Hc 198 [Ad c,.sl .none (l.map Ag),.int .i64 d] (Ad (Do l c d)):=by
 have key:=Azc l c d;have hdp:=Jt c;refine Hf Bgo fun Am Q hQ=>?_;have hf:=Mv (c:=c) (by simpa[Bl,Ad,AV.fits]using Am.1);have B5:c.l.length<=1073741824:=hf.2.2.2.2.2.2.2.1
 have hn64:c.n<=9223372036854775807:=by
  have:=hf.2.1;unfold IntKind.has IntKind.min IntKind.max IntKind.signed IntKind.bits at this;simpa using this.2
 have Dw:l.length<=1073741824:=by simpa[Bl,AV.fits,A1]using Am.2.1.1
 clear Am hf;by_cases h1:c.op=1
 . rw[Ae h1]at key;by_cases h2:c.n<d
   . rw[Ae h2]at key;simp[Ad,Ap c,h1,h2];exact hQ (by simp[key,Ad,Ap c,h1])
   rw[Ac h2]at key;have hw:IntKind.i64.wrap (c.n-d)=c.n-d:=Au Aa Aa;rw[hw]at key;by_cases h3:c.n-d<l.length
   . rw[Ae h3]at key;obtain⟨i,hi⟩:∃i:Nat,c.n-d=i:=⟨(c.n-d).toNat,Aa⟩;have Jj:i<l.length:=Aa;have iw:l.getD i A3=l[i]:=by rw[Jb,Il Jj]; rfl
     have Fa:(i:Int)<(l.length:Int):=Aa;have hwi:=Au (n:=(i:Int)) Aa Aa;rw[hi,p8,iw]at key;simp[Ad,Ap c,h1,h2,hi,hwi,Fa,Jj];refine Ca (dd l[i] d 0) ?_;simp[Ad];exact hQ (by simp[key,Ad])
   rw[Ac h3]at key;simp[Ad,Ap c,h1,h2,hw,h3];exact hQ (by simp[key,Ad,Ch,Fj,Pi,Kd.l_mk])
 rw[Ac h1]at key;generalize O6:(if Bw c.op=true then IntKind.i64.wrap (d+1)else d)=df at key
 have Ach:0<=df/\df+Cz c.l<=1000000000:=by
  rw[<- O6];have hw:=Au (n:=d+1) Aa Aa;rw[hw];split<;>omega
 have Ui:=wc c d;rw[O6]at Ui;obtain⟨l',Ci⟩:∃l',l'=c.l.map fun x=>Do l x df:=⟨_,rfl⟩;have hlen:l'.length=c.l.length:=by rw[Ci]; simp
 have Lj:∀k (h:k<c.l.length) (h':k<l'.length),l'[k]=Do l c.l[k] df:=fun k h h'=>by simp[Ci]
 rw[<- Ci]at key;simp[Ad,Ap c,h1];refine WL [] (fun n f h G=>∃k tok,k+n=c.l.length/\f 8= .int .i64 k/\f 7= .sl tok ((l'.map Ag).take k)/\owns 2 G tok ((l'.map Ag).take k) 6) (c.l.length) Ab ⟨0,.nilT,Ab,rfl,rfl,Fp _ _ _⟩ ?_;rintro n f h G ⟨k,tok,hk,h8,h7,Bt⟩ Q2 Aj;simp[h8,h7];by_cases Af:k<c.l.length
 . have hdm:=Yq (Cy Af);have A6:=A6 c.l[k] (Cy _) df Ach.1 Aa;have Cc:k<l'.length:=Aa;rw[<- Lj k Af Cc]at A6;simp[Af];refine Wd ?_;simp[Af];refine Da Ui ?_;simp;refine Da A6 ?_;simp[Ad,Dx];refine Yb (A:=[_,_]) Bt (by simp[A1]; omega) (P7 (Ea _ _ Iq)) Ab fun tok' G' Bv Ei=>?_;simp[Au (n:=(k:Int)+1) Aa Aa];refine Aj (Ln h ?_)
   have e:(l'.map Ag).take (k+1)=(l'.map Ag).take k++[Ag l'[k]]:=by
    rw[Nj _ _ (by simpa using Cc)]; simp
   refine⟨k+1,tok',Aa,Ab,?_,?_⟩
   . rw[e]; simp
   rw[e]; exact Bv
 have Dk:(l'.map Ag).take k=l'.map Ag:=Gj (by simp;omega);simp[Af];refine Aj (Lx ?_);simp[Dk];refine Ca (Axz c l') ?_;simp[Ad];exact hQ (by simp[key,Ad])
def Ax0(l:Ax)(c:Cn)(d:Int)(h0:0<=d)(hd:d+Bo c<=1000000000):Hc 198 [Ad c,.sl .none (l.map Ag),.int .i64 d] (Ad (Do l c d)):=
 Blp l c d h0 hd fun x _ d h0 hd=>Ax0 l x d h0 hd
termination_by SizeOf.sizeOf c
decreasing_by exact Cn.lt_l ‹_›
def kb(l:Ax)(c:Cn)(hd:Bo c<=1000000000):Hc 117 [Ad c,.sl .none (l.map Ag)] (Ad (Do l c 0)):=by
 have hs:=Ax0 l c 0 Aa Aa;refine Hg Bf9 fun Q hQ=>?_;simp[Ad,Ap c];refine Ca hs ?_;simp[Ad];exact hQ (by simp[Ad])
end
