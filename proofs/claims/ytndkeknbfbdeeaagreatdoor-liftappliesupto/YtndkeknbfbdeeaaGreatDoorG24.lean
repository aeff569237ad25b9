/- A part of the proof that LiftApplies answers true. -/
import Derived.Test.YtndkeknbfbdeeaaGreatDoorG21
set_option linter.all false
set_option maxHeartbeats 4000000
set_option maxRecDepth 100000
namespace Go.Proofs.YtndkeknbfbdeeaaGreatDoor
open Go
mutual
def Hw(B:Int):Cn->Prop
 | .mk o n s k ns l=>(o=1->Cn.mk o n s k ns l=Ch n/\0<=n/\n<=B)/\Tj B l
def Tj(B:Int):List Cn->Prop
 | []=>True
 |c::cs=>Hw B c/\Tj B cs
end
mutual
def ad:∀c:Cn,C0 c=true->Hw 20000 c
 | .mk o n s k ns l,hf=>by
   rw[Mu,Bb]at hf;rw[Hw];exact⟨fun h=>V3 hf.1 h,Ato l hf.2⟩
def Ato:∀l:List Cn,l.all C0=true->Tj 20000 l
 | [],_=>trivial
 |c::cs,hf=>by
  rw[Er,Bb]at hf;exact⟨ad c hf.1,Ato cs hf.2⟩
end
def Agj{B n:Int}(h0:0<=n)(h1:n<=B):Hw B (Ch n):=by
 unfold Ch;rw[Hw]; exact⟨fun _=>⟨rfl,h0,h1⟩,trivial⟩
mutual
def Agi(B d:Int)(hd:0<=d):∀(c:Cn) (f:Int),Hw B c->Hw (B+d) (Fe c d f)
 | .mk o n s k ns l,f,h=>by
   rw[Hw]at h;rw[Fe];by_cases ho:o=1
   . obtain⟨h1,h2,h3⟩:=h.1 ho;rw[Ae ho];split
     . exact Agj Aa Aa
     rw[h1]; exact Agj h2 Aa
   rw[Ac ho,Hw];exact⟨fun h=>absurd h ho,A2n B d hd l _ h.2⟩
def A2n(B d:Int)(hd:0<=d):∀(l:List Cn) (f:Int),Tj B l->Tj (B+d) (Hs l d f)
 | [],_,_=>trivial
 |c::cs,f,h=>by rw[Hs]; exact⟨Agi B d hd c f h.1,A2n B d hd cs f h.2⟩
end
mutual
def xt{B B':Int}(hb:B<=B'):∀c:Cn,Hw B c->Hw B' c
 | .mk o n s k ns l,h=>by
   rw[Hw]at h ⊢;exact⟨fun ho=>⟨(h.1 ho).1,(h.1 ho).2.1,Int.le_trans (h.1 ho).2.2 hb⟩,A2o hb l h.2⟩
def A2o{B B':Int}(hb:B<=B'):∀l:List Cn,Tj B l->Tj B' l
 | [],_=>trivial
 |c::cs,h=>⟨xt hb c h.1,A2o hb cs h.2⟩
end
mutual
def Ae2(d:Int)(hd: -20000<=d)(Dy:d<=20000):∀(c:Cn) (fr:Int),Hw 1000000 c->0<=fr->fr+Bo c<=20000->Dm c d fr=Fe c d fr
 | .mk o n s k ns l,fr,hf,h0,hdp=>by
   rw[Hw]at hf;have M4:=Jt (.mk o n s k ns l);simp only[Cn.l]at M4;rw[Dm,Fe,Ac (show ¬20001<fr by omega)];by_cases h1:o=1
   . obtain⟨-,g1,g2⟩:=hf.1 h1;rw[Ae h1,Ae h1,Au (n:=n+d) Aa Aa]
   rw[Ac h1,Ac h1,Au (n:=fr+1) Aa Aa,Ay9 d hd Dy l _ hf.2 (by split<;>omega) (by split<;>omega)]
def Ay9(d:Int)(hd: -20000<=d)(Dy:d<=20000):∀(l:List Cn) (fr:Int),Tj 1000000 l->0<=fr->fr+Cz l<=20000->Lz l d fr=Hs l d fr
 | [],_,_,_,_=>rfl
 |c::cs,fr,hf,h0,hdp=>by
  simp only[Cz]at hdp;rw[Lz,Hs,Ae2 d hd Dy c fr hf.1 h0 Aa,Ay9 d hd Dy cs fr hf.2 h0 Aa]
end
mutual
def Azf(l:List Cn)(hl:∀x∈l,Hw 1000000 x/\Bo x<=5000)(Dw:l.length<=100000):∀(c:Cn) (d:Int),Hw 1000000 c->0<=d->d+Bo c<=15000->Do l c d=F5 l c d
 | .mk o n s k ns cl,d,hf,h0,hdp=>by
   rw[Hw]at hf;have M4:=Jt (.mk o n s k ns cl);simp only[Cn.l]at M4;rw[Do,F5];by_cases h1:o=1
   . obtain⟨hv,g1,g2⟩:=hf.1 h1;rw[Ae h1,Ae h1];by_cases h2:n<d
     . rw[Ae h2,Ae h2]
     rw[Ac h2,Ac h2,Au (n:=n-d) Aa Aa];by_cases h3:n-d<l.length
     . have Af:(n-d).toNat<l.length:=by omega
       have hx:=hl l[(n-d).toNat] (Cy Af);rw[Ae h3,Jb,Il Af];simp only[lu];exact Ae2 d Aa Aa _ 0 hx.1 Aa Aa
     rw[Ac h3,Im Aa,Au Aa Aa];unfold Ch at hv ⊢;injection hv with a1 a2 a3 a4 a5 a6
     rw[a1,a3,a4,a5,a6]
   rw[Ac h1,Ac h1,Au (n:=d+1) Aa Aa,Azi l hl Dw cl _ hf.2 (by split<;>omega) (by split<;>omega)]
def Azi(l:List Cn)(hl:∀x∈l,Hw 1000000 x/\Bo x<=5000)(Dw:l.length<=100000):∀(cl:List Cn) (d:Int),Tj 1000000 cl->0<=d->d+Cz cl<=15000->Ri l cl d=Mg l cl d
 | [],_,_,_,_=>rfl
 |c::cs,d,hf,h0,hdp=>by
  simp only[Cz]at hdp;rw[Ri,Mg,Azf l hl Dw c d hf.1 h0 Aa,Azi l hl Dw cs d hf.2 h0 Aa]
end
def xr{c:Cn}(h:Ar c=true):Hw 1000000 c/\Bo c<=400:=by
 obtain⟨v1,v2,v3⟩:=Gz h;exact⟨xt Aa c (ad c v3),v2⟩
def Aze{c:Cn}{l:Ax}(h:Ar c=true)(hl:∀x∈l,Ar x=true)(Dw:l.length<=100000):Do l c 0=F5 l c 0:=by
 obtain⟨v1,v2⟩:=xr h;exact Azf l (fun x hx=>⟨(xr (hl x hx)).1,by have:=(xr (hl x hx)).2;omega⟩) Dw c 0 v1 Aa Aa
def Fu.one{c r:Cn}{l rs:Ax}{n m k:Int}(h:Fu [c] n [r] m)(h2:Fu l m rs k):Fu (c::l) n (r::rs) k:=by
 cases h with
 |beta h1 hv ho hp hf hb hn hu h2' h3=>cases h3;exact .beta h1 hv ho hp hf hb hn hu h2' h2
 |eta h1 hv ho hp hx he h3=>cases h3;exact .eta h1 hv ho hp hx he h2
 |plain h1 hv hb he h3=>cases h3;exact .plain h1 hv hb he h2
section
attribute [-simp] Int.not_lt Int.not_le
attribute [local simp] Cb Cq
def RzP(N:Nat)(c:Cn):Prop:=Ar c=true->∀left:Int,0<=left->left<=N->left<=10000->∃r m,Hc 199 [Ad c,.int .i64 left] (Mk r m)/\(m<0\/(0<=m/\Fu [c] left [r] m))
def A0g(N:Nat):∀(l:Ax) (left:Int),(∀ c∈l,RzP N c/\Ar c=true)->0<=left->left<=N->left<=10000->
 ∃rs z,Z2 l left rs z/\rs.length<=l.length/\(∀ x∈rs,Al x<=20000)/\(z=none\/∃m,z=some m/\0<=m/\Fu l left rs m)
 | [],left,_,h0,_,_=>⟨[],some left,.nil _,Ab,Ab,.inr ⟨left,rfl,h0,.nil _⟩⟩
 |c::l,left,hl,h0,h1,h2=>by
  obtain⟨hp,hv⟩:=hl c Ab;obtain⟨r,m,hc,hm⟩:=hp hv left h0 h1 h2;rcases hm with hm|⟨ba,hR⟩
  . exact⟨[],none,.bad r m hc hm,Ab,Ab,.inl rfl⟩
  have hle:=hR.le;obtain⟨rs,z,q1,q2,q3,q4⟩:=A0g N l m (fun x hx=>hl x (by simp[hx])) ba Aa Aa;refine⟨r::rs,z,.good r m hc ba q1,by simp;omega,fun x hx=>?_,?_⟩
  . rcases List.mem_cons.1 hx with rfl|hx
    . exact(Gz (hR.valid x Ab)).1
    exact q3 x hx
  rcases q4 with q4|⟨m',e,q5,q6⟩
  . exact .inl q4
  exact .inr ⟨m',e,q5,hR.one q6⟩
def A0h(N:Nat)(hN:∀M,M<N->∀c,RzP M c)(c:Cn):RzP N c:=by
 intro hv left h0 h1 h2;obtain⟨v1,v2,v3⟩:=Gz hv;have hse:=Ir c;obtain⟨ps,z,q1,q2,q3,q4⟩:=A0g N c.l left (fun x hx=>⟨A0h N hN x,Jq hv hx⟩) h0 h1 h2;have S6:=Adg c.l;have S7:=Afm 20000 ps q3
 have Cl:Al (.mk c.op c.n c.s c.k c.names ps)<=1000000000000:=by
  rw[Al];have:20000*ps.length<=20000*20000:=Aab _ Aa;omega
 have walk:=fun y hT=>Blq c left ps z y q1 Cl hT;rcases q4 with rfl|⟨n1,rfl,Ns,hR⟩
 . exact⟨_,_,walk _ .bad,.inl Di⟩
 have hle:=hR.le;cases hvo:Ar (.mk c.op c.n c.s c.k c.names ps)
 . exact⟨_,_,walk _ (.invalid n1 hvo),.inl Di⟩
 have M7:=(Rv _).1 (Zq hvo).1;by_cases Eo:c.op=12
 . obtain⟨f,a,Q3⟩:∃f a,ps=[f,a]:=by
    have:ps.length=2:=M7.1.1 Eo
    match ps,this with
    | [f,a],_=>exact⟨f,a,rfl⟩
   have vf:Ar f=true:=Jq hvo (by simp[Cn.l,Q3]);have va:Ar a=true:=Jq hvo (by simp[Cn.l,Q3]);by_cases hf:f.op=11
   . obtain⟨b,hb⟩:∃b,f.l=[b]:=by
      have:=((Rv f).1 (Zq vf).1).1.2 hf
      match h:f.l,this with
      | [x],_=>exact⟨x,rfl⟩
     have vb:Ar b=true:=Jq vf (by simp[hb]);obtain⟨a1,_,_⟩:=Gz va;obtain⟨_,b2,_⟩:=Gz vb;by_cases hz:n1=0
     . subst hz;exact⟨_,_,walk _ (.zero f a hvo Eo Q3 hf),.inl Di⟩
     have hg:=Bla b a Aa Aa;generalize gr [(Al a:Int)] b 0=g at hg;by_cases Q4:20000<g
     . exact⟨_,_,walk _ (.grown n1 f a b g hvo Eo Q3 hf hb hz hg Q4),.inl Di⟩
     have e:=Aze (c:=b) (l:=[a]) vb (by simpa using va) Ab;cases hvn:Ar (Do [a] b 0)
     . exact⟨_,_,walk _ (.next n1 f a b g hvo Eo Q3 hf hb hz hg Q4 hvn),.inl Di⟩
     obtain⟨r,m,hc,hm⟩:=hN (N-1) Aa _ hvn (n1-1) Aa Aa Aa;refine⟨r,m,walk (r,m) (.beta n1 f a b g (r,m) hvo Eo Q3 hf hb hz Aa hg Q4 hvn hc),?_⟩;rcases hm with hm|⟨ba,hR2⟩
     . exact .inl hm
     rw[e]at hvn hR2;exact .inr ⟨ba,.beta hR hvo Eo Q3 hf hb Aa hvn hR2 (.nil _)⟩
   have he:Kw (.mk c.op c.n c.s c.k c.names ps)=false:=by
    unfold Kw;rw[li];exact .inl (Jd (show ¬c.op=11 by omega))
   have bj:c.op=12->∃f a,ps=[f,a]/\f.op≠11:=fun _=>⟨f,a,Q3,hf⟩;exact⟨_,_,walk _ (.plain n1 hvo bj he),.inr ⟨Ns,.plain hR hvo bj he (.nil _)⟩⟩
 cases he:Kw (.mk c.op c.n c.s c.k c.names ps)
 . have bj:c.op=12->∃f a,ps=[f,a]/\f.op≠11:=fun h=>absurd h Eo;exact⟨_,_,walk _ (.plain n1 hvo bj he),.inr ⟨Ns,.plain hR hvo bj he (.nil _)⟩⟩
 have Fw:c.op=11:=by
  simp only[Kw,Bb,Aw]at he;exact he.1
 obtain⟨x,hx⟩:∃x,ps=[x]:=by
  have:ps.length=1:=M7.1.2 Fw
  match ps,this with
  | [x],_=>exact⟨x,rfl⟩
 have vx:Ar x=true:=Jq hvo (by simp[Cn.l,hx])
 have hx12:x.op=12:=by
  have Dq:=he;subst hx;simp only[Kw,Cn.l,Bb,Aw]at Dq;exact Dq.2.1
 obtain⟨f,a,Q3⟩:∃f a,x.l=[f,a]:=by
  have:=((Rv x).1 (Zq vx).1).1.1 hx12
  match h:x.l,this with
  | [f,a],_=>exact⟨f,a,rfl⟩
 have vf:Ar f=true:=Jq vx (by simp[Q3]);obtain⟨w1,w2⟩:=xr vf;have e:=Ae2 (-1) Aa Aa f 0 w1 Aa Aa;have hw:=walk _ (.eta n1 x f a hvo Fw hx Q3 he);rw[e]at hw;exact⟨_,_,hw,.inr ⟨Ns,.eta hR hvo Fw hx Q3 he (.nil _)⟩⟩
termination_by SizeOf.sizeOf c
decreasing_by exact Cn.lt_l ‹_›
def Bon(N:Nat):∀c,RzP N c:=by
 induction N using Nat.strongRecOn with
 |_ N ih=>exact A0h N ih
def Ax1(c:Cn):∃r b,Hc 118 [Ad c] (Oo r b)/\(b=true->Ar c=true/\∃m,Fu [c] 10000 [r] m):=by
 have Fb:=Lw c;cases hv:Ar c
 . rw[hv]at Fb;refine⟨A3,false,?_,Ab⟩;refine Hg Awy fun Q hQ=>?_;simp[Ad,Ap c];refine Ca Fb ?_;simp;exact hQ (by simp[Oo,Ad,E9])
 rw[hv]at Fb;obtain⟨r,m,hn,hm⟩:=Bon 10000 c hv 10000 Aa Aa Aa;refine⟨r,decide (0<=m),?_,fun h=>?_⟩
 . clear hm;refine Hg Awy fun Q hQ=>?_;simp[Ad,Ap c];refine Ca Fb ?_;simp;refine Ca hn ?_;simp[Mk,Ad,Ap r];exact hQ (by simp[Oo,Ad,Ap r])
 rw[Aw]at h;rcases hm with hm|⟨_,hR⟩
 . omega
 exact⟨rfl,m,hR⟩
def Bl9(s:Sm)(l:Ax)(fr:Int)(h:Nat)(hs:X5 (h+1) s)(h0:0<=fr)(h1:fr+2000*(h+1)<=1000000)(A6:∀x∈s.l,∀fr:Int,0<=fr->fr+2000*h<=1000000->Hc 197 [An x,.sl .none (l.map Ag),.int .i64 fr] (An (Gg (fun c k=>Do l c k) x fr))):
 Hc 197 [An s,.sl .none (l.map Ag),.int .i64 fr] (An (Gg (fun c k=>Do l c k) s fr)):=by
 have key:=Afe (fun c k=>Do l c k) s fr;have Ej:=X0 s.op;obtain⟨q1,q2,q3,_⟩:=hs;have Br:=Bma l s.con fr Aa Aa Aa;obtain⟨l',Ci⟩:∃l',l'=Nx (fun c k=>Do l c k) s.ks s.more s.l 0 fr:=⟨_,rfl⟩;have hlen:l'.length=s.l.length:=by rw[Ci,kp]
 have Lj:∀k (h:k<s.l.length) (h':k<l'.length),l'[k]=Gg (fun c k=>Do l c k) s.l[k] (IntKind.i64.wrap (fr+K7 s.ks s.more k)):=fun k h h'=>by
  subst Ci;rw[Afg _ _ _ _ _ _ _ h]; simp
 rw[<- Ci]at key;generalize Do l s.con fr=u at Br key;have hb:∀i:Nat,Hc 194 [An s,.int .i64 i] (.sl .none ((Pv s i).map Ak)):=fun i=>Ayd s i Aa Aa;have D8:=Aij s;cases ho:Dr s.op
 case false=>
  rw[ho]at Ej key;refine Hf Aw3 fun Am Q hQ=>?_;have hf:=Rj (c:=s) (by simpa[Bl,An,AV.fits]using Am.1);have B5:s.l.length<=1073741824:=by simpa[A1]using hf.2.2.2.2.1
  clear Am hf;simp[An,Av s];refine Ca Ej ?_;simp;refine WL [2] (fun n f h G=>∃k tok,k+n=s.l.length/\f 8= .int .i64 k/\h 2=[.int .i64 s.op,.int .i64 s.n,.str s.s,.int .i64 s.con.op,.int .i64 s.con.n,.str s.con.s,.sl .none (s.con.k.l.map Ak),.sl .none (At s.con.names),.sl .none (s.con.l.map Ag),.sl .none (s.k.l.map Ak),.sl .none (s.ks.map Ak),.sl .none (s.more.map Ak),.sl .none (At s.names),.sl tok ((l'.map Bx).take k)]/\owns 3 G tok ((l'.map Bx).take k) 14) (s.l.length) Ab ⟨0,.nilT,Ab,rfl,by simp[Fs],Fp _ _ _⟩ ?_;rintro n f h G ⟨k,tok,hk,h8,h2,Bt⟩ Q2 Aj;simp[h8,h2];by_cases Af:k<s.l.length
  . have Cc:k<l'.length:=by omega
    have Kz:0<=K7 s.ks s.more k/\K7 s.ks s.more k<=2000:=by unfold K7;split<;>omega
    have hw:=Au (n:=fr+K7 s.ks s.more k) Aa Aa;have A6:=A6 s.l[k] (Cy _) (IntKind.i64.wrap (fr+K7 s.ks s.more k)) (by rw[hw]; omega) (by rw[hw]; omega);rw[<- Lj k Af Cc]at A6;have G9:=hb k;have Ug:=D8 k;generalize Pv s (k:Int)=bd at G9 Ug;simp[Af];refine Wd ?_;simp[Af];refine Da G9 ?_;simp[Ug];refine Da A6 ?_;simp[An,Dx];refine Tp [_,_,_] G (by simp only[Gb,Gx]; rfl) (by simpa using Bt) (by simp[A1]; omega) (P7 (Ea _ _ Wa)) Ab fun tok' G' Bv Ei=>?_
    have e:(l'.map Bx).take (k+1)=(l'.map Bx).take k++[Bx l'[k]]:=by
     rw[Nj _ _ (by simpa using Cc)]; simp
    rw[<- e]at Bv ⊢;simp[Au (n:=(k:Int)+1) Aa Aa];refine Aj (Fo (n-1) (fun _=>[.int .i64 s.op,.int .i64 s.n,.str s.s,.int .i64 s.con.op,.int .i64 s.con.n,.str s.con.s,.sl .none (s.con.k.l.map Ak),.sl .none (At s.con.names),.sl .none (s.con.l.map Ag),.sl .none (s.k.l.map Ak),.sl .none (s.ks.map Ak),.sl .none (s.more.map Ak),.sl .none (At s.names),.sl tok' ((l'.map Bx).take (k+1))]) (G':=G') Ab Aa Ab ?_);exact⟨k+1,tok',Aa,Ab,rfl,Bv⟩
  have Dk:(l'.map Bx).take k=l'.map Bx:=Gj (by simp;omega);simp[Af];refine Aj (Lx ?_);simp[Dk];exact hQ (by simp[key,An,Av,Sm.op,Sm.n,Sm.s,Sm.con,Sm.k,Sm.ks,Sm.more,Sm.names,Sm.l])
 case true=>
  rw[ho]at Ej key;refine Hf Aw3 fun Am Q hQ=>?_;have hf:=Rj (c:=s) (by simpa[Bl,An,AV.fits]using Am.1);have B5:s.l.length<=1073741824:=by simpa[A1]using hf.2.2.2.2.1
  clear Am hf;simp[An,Av s];refine Ca Ej ?_;simp;refine Ca Br ?_;simp[Ad,Ap u];refine WL [2] (fun n f h G=>∃k tok,k+n=s.l.length/\f 8= .int .i64 k/\h 2=[.int .i64 s.op,.int .i64 s.n,.str s.s,.int .i64 u.op,.int .i64 u.n,.str u.s,.sl .none (u.k.l.map Ak),.sl .none (At u.names),.sl .none (u.l.map Ag),.sl .none (s.k.l.map Ak),.sl .none (s.ks.map Ak),.sl .none (s.more.map Ak),.sl .none (At s.names),.sl tok ((l'.map Bx).take k)]/\owns 3 G tok ((l'.map Bx).take k) 14) (s.l.length) Ab ⟨0,.nilT,Ab,rfl,by simp[Fs],Fp _ _ _⟩ ?_;rintro n f h G ⟨k,tok,hk,h8,h2,Bt⟩ Q2 Aj;simp[h8,h2];by_cases Af:k<s.l.length
  . have Cc:k<l'.length:=by omega
    have Kz:0<=K7 s.ks s.more k/\K7 s.ks s.more k<=2000:=by unfold K7;split<;>omega
    have hw:=Au (n:=fr+K7 s.ks s.more k) Aa Aa;have A6:=A6 s.l[k] (Cy _) (IntKind.i64.wrap (fr+K7 s.ks s.more k)) (by rw[hw]; omega) (by rw[hw]; omega);rw[<- Lj k Af Cc]at A6;have G9:=hb k;have Ug:=D8 k;generalize Pv s (k:Int)=bd at G9 Ug;simp[Af];refine Wd ?_;simp[Af];refine Da G9 ?_;simp[Ug];refine Da A6 ?_;simp[An,Dx];refine Tp [_,_,_] G (by simp only[Gb,Gx]; rfl) (by simpa using Bt) (by simp[A1]; omega) (P7 (Ea _ _ Wa)) Ab fun tok' G' Bv Ei=>?_
    have e:(l'.map Bx).take (k+1)=(l'.map Bx).take k++[Bx l'[k]]:=by
     rw[Nj _ _ (by simpa using Cc)]; simp
    rw[<- e]at Bv ⊢;simp[Au (n:=(k:Int)+1) Aa Aa];refine Aj (Fo (n-1) (fun _=>[.int .i64 s.op,.int .i64 s.n,.str s.s,.int .i64 u.op,.int .i64 u.n,.str u.s,.sl .none (u.k.l.map Ak),.sl .none (At u.names),.sl .none (u.l.map Ag),.sl .none (s.k.l.map Ak),.sl .none (s.ks.map Ak),.sl .none (s.more.map Ak),.sl .none (At s.names),.sl tok' ((l'.map Bx).take (k+1))]) (G':=G') Ab Aa Ab ?_);exact⟨k+1,tok',Aa,Ab,rfl,Bv⟩
  have Dk:(l'.map Bx).take k=l'.map Bx:=Gj (by simp;omega);simp[Af];refine Aj (Lx ?_);simp[Dk];exact hQ (by simp[key,An,Av,Sm.op,Sm.n,Sm.s,Sm.con,Sm.k,Sm.ks,Sm.more,Sm.names,Sm.l])
def Ayi(l:List Cn):∀(h:Nat) (s:Sm) (fr:Int),X5 h s->0<=fr->fr+2000*h<=1000000->Hc 197 [An s,.sl .none (l.map Ag),.int .i64 fr] (An (Gg (fun c k=>Do l c k) s fr))
 |0,_,_,hs,_,_=>hs.elim
 |h+1,s,fr,hs,h0,h1=>Bl9 s l fr h hs h0 Aa fun x hx fr g0 g1=>Ayi l h x fr (hs.2.2.2 x hx) g0 g1
def Bl5(l:Ax)(h:Nat)(s:Sm)(hs:X5 h s)(hh:h<=500):Hc 115 [An s,.sl .none (l.map Ag)] (An (Gg (fun c k=>Do l c k) s 0)):=by
 have hk:=Ayi l h s 0 hs Aa Aa;generalize Gg (fun c k=>Do l c k) s 0=u at hk ⊢;refine Hg Bhe fun Q hQ=>?_;simp[An,Av s];refine Ca hk ?_;simp[An,Av u];exact hQ (by simp[An,Av u])
inductive Tv:List Sm->Option (List Sm)->Prop
 |nil:Tv [] (some [])
 |bad {x:Sm} {l:List Sm} (r:Sm) (h:Hc 116 [An x] (Ex r false)):Tv (x::l) none
 |no {x:Sm} {l:List Sm} (r:Sm) (h:Hc 116 [An x] (Ex r true)) (hl:Tv l none):Tv (x::l) none
 |good {x:Sm} {l rs:List Sm} (r:Sm) (h:Hc 116 [An x] (Ex r true)) (hl:Tv l (some rs)):Tv (x::l) (some (r::rs))
def j1(s:Sm)(c:Cn):Option (List Sm)->AV
 |none=>Ex Dl false
 |some rs=>Ex (.mk s.op s.n s.s c s.k s.ks s.more s.names rs) true
def Ahk:∀l:List Sm,(∀ x∈l,∃r b,Hc 116 [An x] (Ex r b)/\(b=true->NS x r))->∃z,Tv l z/\∀rs,z=some rs->Wo l rs/\rs.length=l.length
 | [],_=>⟨some [],.nil,fun rs h=>by cases h;exact⟨rfl,rfl⟩⟩
 |x::l,hl=>by
  obtain⟨r,b,h,hb⟩:=hl x Ab;cases b
  . exact⟨none,.bad r h,fun _ h=>by cases h⟩
  obtain⟨z,h2,hz⟩:=Ahk l fun y hy=>hl y (by simp[hy])
  cases z with
  |none=>exact⟨none,.no r h h2,fun _ h=>by cases h⟩
  |some rs=>
   obtain⟨q1,q2⟩:=hz rs rfl;refine⟨some (r::rs),.good r h h2,fun rs' h=>?_⟩;cases h;exact⟨⟨r,rs,rfl,hb rfl,q1⟩,by simp[q2]⟩
def Bl2(s:Sm)(ho:Dr s.op=false)(z:Option O8)(hz:Tv s.l z):Hc 116 [An s] (j1 s s.con z):=by
 have Ej:=X0 s.op;rw[ho]at Ej;generalize Hr:j1 s s.con z=res;refine Hf Ad6 fun Am Q hQ=>?_;have hf:=Rj (c:=s) (by simpa[Bl,An,AV.fits]using Am);have B5:s.l.length<=1073741824:=by simpa[A1]using hf.2.2.2.2.1
 clear Am hf;simp[An,Av s];refine Ca Ej ?_;simp;refine WL [2] (fun n f h G=>∃(k:Nat) (tok:Dh) (done:O8) (y:Option O8),k+n=s.l.length/\done.length=k/\f 7= .int .i64 k/\h 2=[.int .i64 s.op,.int .i64 s.n,.str s.s,.int .i64 s.con.op,.int .i64 s.con.n,.str s.con.s,.sl .none (s.con.k.l.map Ak),.sl .none (At s.con.names),.sl .none (s.con.l.map Ag),.sl .none (s.k.l.map Ak),.sl .none (s.ks.map Ak),.sl .none (s.more.map Ak),.sl .none (At s.names),.sl tok (done.map Bx)]/\owns 3 G tok (done.map Bx) 14/\Tv (s.l.drop k) y/\z=y.map (done++ ·)) (s.l.length) Ab ⟨0,.nilT,[],z,Ab,rfl,rfl,by simp[Fs],Fp _ _ _,by simpa using hz,by cases z<;>simp⟩ ?_;rintro n f h G ⟨k,tok,done,y,hk,R8,h7,h2,Bt,hN,Qd⟩ Q2 Aj;simp[h7,h2];by_cases Af:k<s.l.length
 . have hd:=Ct Af;rw[hd]at hN
   cases hN with
   |bad r hc=>
    simp[Af];refine Ca hc ?_;simp[Ex,An,Av r];have Tb:res=Ex Dl false:=by rw[<- Hr,Qd]; rfl
    refine Aj (Lr ?_);simp
    exact hQ (by simp[Tb,Ex,An,Kl])
   |no r hc hl=>
    simp[Af];refine Ca hc ?_;simp[Ex,An,Av r];refine Tw [_,_,_] (G++[_]) (by simp only[Gb,Gx]; rfl) (by simpa using Lv Bt) (by simp[A1]; omega) (Ea _ _ Wa) Ab fun tok' G' Bv Ei=>?_;simp[Au (n:=(k:Int)+1) Aa Aa];refine Aj (Fo (n-1) (fun _=>[.int .i64 s.op,.int .i64 s.n,.str s.s,.int .i64 s.con.op,.int .i64 s.con.n,.str s.con.s,.sl .none (s.con.k.l.map Ak),.sl .none (At s.con.names),.sl .none (s.con.l.map Ag),.sl .none (s.k.l.map Ak),.sl .none (s.ks.map Ak),.sl .none (s.more.map Ak),.sl .none (At s.names),.sl tok' ((done++[r]).map Bx)]) (G':=G') (by simp[Av r]) Aa Ab ?_)
    exact⟨k+1,tok',done++[r],_,Aa,by simp[R8],Ab,rfl,by simpa[Av r]using Bv,hl,by rw[Qd]; simp⟩
   | @good _ _ rs r hc hl=>
     simp[Af];refine Ca hc ?_;simp[Ex,An,Av r];refine Tw [_,_,_] (G++[_]) (by simp only[Gb,Gx]; rfl) (by simpa using Lv Bt) (by simp[A1]; omega) (Ea _ _ Wa) Ab fun tok' G' Bv Ei=>?_;simp[Au (n:=(k:Int)+1) Aa Aa];refine Aj (Fo (n-1) (fun _=>[.int .i64 s.op,.int .i64 s.n,.str s.s,.int .i64 s.con.op,.int .i64 s.con.n,.str s.con.s,.sl .none (s.con.k.l.map Ak),.sl .none (At s.con.names),.sl .none (s.con.l.map Ag),.sl .none (s.k.l.map Ak),.sl .none (s.ks.map Ak),.sl .none (s.more.map Ak),.sl .none (At s.names),.sl tok' ((done++[r]).map Bx)]) (G':=G') (by simp[Av r]) Aa Ab ?_);exact⟨k+1,tok',done++[r],_,Aa,by simp[R8],Ab,rfl,by simpa[Av r]using Bv,hl,by rw[Qd]; simp⟩
 have hd:s.l.drop k=[]:=Cm Aa;rw[hd]at hN;cases hN;have Tb:res=Ex (.mk s.op s.n s.s s.con s.k s.ks s.more s.names done) true:=by rw[<- Hr,Qd]; simp[j1]
 simp[Af];refine Aj (Lx ?_);simp;exact hQ (by simp[Tb,Ex,An,Av,Sm.op,Sm.n,Sm.s,Sm.con,Sm.k,Sm.ks,Sm.more,Sm.names,Sm.l])
def Bl4(s:Sm)(ho:Dr s.op=true)(u:Cn)(ht:Hc 118 [Ad s.con] (Oo u true))(z:Option O8)(hz:Tv s.l z):Hc 116 [An s] (j1 s u z):=by
 have Ej:=X0 s.op;rw[ho]at Ej;generalize Hr:j1 s u z=res;refine Hf Ad6 fun Am Q hQ=>?_;have hf:=Rj (c:=s) (by simpa[Bl,An,AV.fits]using Am);have B5:s.l.length<=1073741824:=by simpa[A1]using hf.2.2.2.2.1
 clear Am hf;simp[An,Av s];refine Ca Ej ?_;simp;refine Ca ht ?_;simp[Oo,Ad,Ap u];refine WL [2] (fun n f h G=>∃(k:Nat) (tok:Dh) (done:O8) (y:Option O8),k+n=s.l.length/\done.length=k/\f 7= .int .i64 k/\h 2=[.int .i64 s.op,.int .i64 s.n,.str s.s,.int .i64 u.op,.int .i64 u.n,.str u.s,.sl .none (u.k.l.map Ak),.sl .none (At u.names),.sl .none (u.l.map Ag),.sl .none (s.k.l.map Ak),.sl .none (s.ks.map Ak),.sl .none (s.more.map Ak),.sl .none (At s.names),.sl tok (done.map Bx)]/\owns 4 G tok (done.map Bx) 14/\Tv (s.l.drop k) y/\z=y.map (done++ ·)) (s.l.length) Ab ⟨0,.nilT,[],z,Ab,rfl,rfl,by simp[Fs],Fp _ _ _,by simpa using hz,by cases z<;>simp⟩ ?_;rintro n f h G ⟨k,tok,done,y,hk,R8,h7,h2,Bt,hN,Qd⟩ Q2 Aj;simp[h7,h2];by_cases Af:k<s.l.length
 . have hd:=Ct Af;rw[hd]at hN
   cases hN with
   |bad r hc=>
    simp[Af];refine Ca hc ?_;simp[Ex,An,Av r];have Tb:res=Ex Dl false:=by rw[<- Hr,Qd]; rfl
    refine Aj (Lr ?_);simp
    exact hQ (by simp[Tb,Ex,An,Kl])
   |no r hc hl=>
    simp[Af];refine Ca hc ?_;simp[Ex,An,Av r];refine Tw [_,_,_,_] (G++[_]) (by simp only[Gb,Gx]; rfl) (by simpa using Lv Bt) (by simp[A1]; omega) (Ea _ _ Wa) Ab fun tok' G' Bv Ei=>?_;simp[Au (n:=(k:Int)+1) Aa Aa];refine Aj (Fo (n-1) (fun _=>[.int .i64 s.op,.int .i64 s.n,.str s.s,.int .i64 u.op,.int .i64 u.n,.str u.s,.sl .none (u.k.l.map Ak),.sl .none (At u.names),.sl .none (u.l.map Ag),.sl .none (s.k.l.map Ak),.sl .none (s.ks.map Ak),.sl .none (s.more.map Ak),.sl .none (At s.names),.sl tok' ((done++[r]).map Bx)]) (G':=G') (by simp[Av r]) Aa Ab ?_)
    exact⟨k+1,tok',done++[r],_,Aa,by simp[R8],Ab,rfl,by simpa[Av r]using Bv,hl,by rw[Qd]; simp⟩
   | @good _ _ rs r hc hl=>
     simp[Af];refine Ca hc ?_;simp[Ex,An,Av r];refine Tw [_,_,_,_] (G++[_]) (by simp only[Gb,Gx]; rfl) (by simpa using Lv Bt) (by simp[A1]; omega) (Ea _ _ Wa) Ab fun tok' G' Bv Ei=>?_;simp[Au (n:=(k:Int)+1) Aa Aa];refine Aj (Fo (n-1) (fun _=>[.int .i64 s.op,.int .i64 s.n,.str s.s,.int .i64 u.op,.int .i64 u.n,.str u.s,.sl .none (u.k.l.map Ak),.sl .none (At u.names),.sl .none (u.l.map Ag),.sl .none (s.k.l.map Ak),.sl .none (s.ks.map Ak),.sl .none (s.more.map Ak),.sl .none (At s.names),.sl tok' ((done++[r]).map Bx)]) (G':=G') (by simp[Av r]) Aa Ab ?_);exact⟨k+1,tok',done++[r],_,Aa,by simp[R8],Ab,rfl,by simpa[Av r]using Bv,hl,by rw[Qd]; simp⟩
 have hd:s.l.drop k=[]:=Cm Aa;rw[hd]at hN;cases hN;have Tb:res=Ex (.mk s.op s.n s.s u s.k s.ks s.more s.names done) true:=by rw[<- Hr,Qd]; simp[j1]
 simp[Af];refine Aj (Lx ?_);simp;exact hQ (by simp[Tb,Ex,An,Av,Sm.op,Sm.n,Sm.s,Sm.con,Sm.k,Sm.ks,Sm.more,Sm.names,Sm.l])
def Bl3(s:Sm)(ho:Dr s.op=true)(u:Cn)(ht:Hc 118 [Ad s.con] (Oo u false)):Hc 116 [An s] (Ex Dl false):=by
 have Ej:=X0 s.op;rw[ho]at Ej;refine Hg Ad6 fun Q hQ=>?_;simp[An,Av s];refine Ca Ej ?_;simp;refine Ca ht ?_;simp[Oo,Ad,Ap u];exact hQ (by simp[Ex,An,Kl])
def Aye(s:Sm):∃r b,Hc 116 [An s] (Ex r b)/\(b=true->NS s r):=by
 obtain⟨z,hz,hz2⟩:=Ahk s.l fun x hx=>Aye x;have e:s= .mk s.op s.n s.s s.con s.k s.ks s.more s.names s.l:=by cases s;rfl
 cases ho:Dr s.op
 . have hk:=Bl2 s ho z hz
   cases z with
   |none=>exact⟨_,_,hk,Ab⟩
   |some rs=>
    refine⟨_,_,hk,fun _=>?_⟩;rw[e,NS];exact⟨s.con,rs,rfl,by rw[ho]; simp,(hz2 rs rfl).1⟩
 obtain⟨u,b,ht,hb⟩:=Ax1 s.con;cases b
 . exact⟨_,_,Bl3 s ho u ht,Ab⟩
 have hk:=Bl4 s ho u ht z hz
 cases z with
 |none=>exact⟨_,_,hk,Ab⟩
 |some rs=>
  refine⟨_,_,hk,fun _=>?_⟩;rw[e,NS];exact⟨u,rs,rfl,by rw[ho,Ae rfl]; exact(hb rfl).2,(hz2 rs rfl).1⟩
termination_by SizeOf.sizeOf s
decreasing_by exact Sm.lt_l ‹_›
def Ax8(c:Cn)(d fr:Int):∃r,Hc 204 [Ad c,.int .i64 d,.int .i64 fr] (Ad r):=by
 have hn:=Re c;have hs:=dd c d fr;generalize Dm c d fr=u at hs;cases h:Fg c<;>rw[h]at hn
 . refine⟨u,?_⟩;refine Hg Awz fun Q hQ=>?_;simp[Ad,Ap c];refine Ca hn ?_;simp;refine Ca hs ?_;simp[Ad,Ap u];exact hQ (by simp[Ad,Ap u])
 refine⟨c,?_⟩;refine Hg Awz fun Q hQ=>?_;simp[Ad,Ap c];refine Ca hn ?_;simp;exact hQ (by simp[Ad,Ap c])
def Ax9(l:Ax)(c:Cn)(m:Int)(h0:0<=m)(h1:m<=1000000)(hd:Bo c<=1000):∃r,Hc 200 [Ad c,.sl .none (l.map Ag),.int .i64 m] (Ad r):=by
 have hn:=Re c;cases h:Fg c<;>rw[h]at hn
 case true=>
  refine⟨c,?_⟩;refine Hg Aw0 fun Q hQ=>?_;simp[Ad,Ap c];refine Ca hn ?_;simp;exact hQ (by simp[Ad,Ap c])
 clear h;obtain⟨M,rfl⟩:∃M:Nat,m=M:=⟨m.toNat,Aa⟩;have D4:=kb l (Gs M c) (by rw[Adf]; omega);rw[Ae4 l M c 0 Aa Aa,p9]at D4;generalize Do l c M=v at D4;refine⟨v,?_⟩;refine Hg Aw0 fun Q hQ=>?_;simp[Ad];refine Ca hn ?_;simp;refine WL [0] (fun n f h G=>∃k:Nat,k+n=M/\f 7= .int .i64 k/\h 0=Ag (Gs k c)/\G=[]) (M) Ab ⟨0,Ab,rfl,by simp[Fs,Gs],rfl⟩ ?_;rintro n f h G ⟨k,hk,h7,hh,rfl⟩ Q2 Aj;simp[h7,hh];by_cases Af:k<M
 . have Cc:(k:Int)<(M:Int):=by omega
   have P4:=wb 11 (.mk []) (Gs k c);have e:Ie 11 (.mk []) (Gs k c)=Gs (k+1) c:=rfl;rw[e]at P4;generalize hy:Gs (k+1) c=y at P4;simp[Af];refine Ca P4 ?_;simp[Ad,Au (n:=(k:Int)+1) Aa Aa];refine Aj (Fo (n-1) (fun _=>Ag y) rfl Aa Ab ?_);exact⟨k+1,Aa,Ab,by rw[hy],rfl⟩
 have Cc:¬(k:Int)<(M:Int):=by omega
 obtain rfl:k=M:=Aa;simp[Af];refine Aj (Lx ?_);simp;refine Ca D4 ?_;clear D4 hh h7 hn;simp[Ad];refine WL [0] (fun n f h G=>∃j:Nat,j+n=k/\f 8= .int .i64 j/\h 0=Ag (Gs n v)/\G=[]) (k) Ab ⟨0,Ab,rfl,by simp[Fs],rfl⟩ ?_;rintro n f h G ⟨j,hj,h8,hh,rfl⟩ Q2 Aj;simp[h8,hh];by_cases Af:j<k
 . have Cc:(j:Int)<(k:Int):=by omega
   obtain⟨i,rfl⟩:∃i,n=i+1:=⟨n-1,Aa⟩
   have e:Ag (Gs (i+1) v)=[.int .i64 11,.int .i64 0,.str [],.sl .none [],.sl .none [],.sl .none [Ag (Gs i v)]]:=by
    rw[Gs,Ie,Fj]; rfl
   rw[e]at hh ⊢;simp[Af,Au (n:=(j:Int)+1) Aa Aa];refine Aj (Fo i (fun _=>Ag (Gs i v)) rfl Aa Ab ?_);exact⟨j+1,Aa,Ab,rfl,rfl⟩
 have Cc:¬(j:Int)<(k:Int):=by omega
 obtain rfl:n=0:=Aa;simp[Af,Gs];refine Aj (Lx ?_);simp;exact hQ (by simp[Ad])
def wd(t:Te)(i:Int):∃z:Int,Hc 201 [Ah t,.int .i64 i] (.int .i64 z)/\0<=z/\z<=1:=by
 refine⟨if t.op=6\/(t.op=9/\i=1)then 1 else 0,?_,by split<;>omega,by split<;>omega⟩;refine Hg Bgs fun Q hQ=>?_;simp[Ah,Aq t]
 repeat' (first |(refine C3 (fun hb=>?_) (fun hb=>?_)<;>(try simp only[bN]at hb)<;>simp[hb])|(refine Em (fun hb=>?_) (fun hb=>?_)<;>(try simp only[bN]at hb)<;>simp[hb]))
 all_goals exact hQ
def Ax5(t:Te)(i:Int):∃z:Int,Hc 205 [Ah t,.int .i64 i] (.int .i64 z):=by
 refine⟨if t.op=4\/t.op=16\/((t.op=17\/t.op=9\/t.op=13)/\0<i)then 1 else 0,?_⟩;refine Hg Bgy fun Q hQ=>?_;simp[Ah,Aq t]
 repeat' (first |(refine C3 (fun hb=>?_) (fun hb=>?_)<;>(try simp only[bN]at hb)<;>simp[hb])|(refine Em (fun hb=>?_) (fun hb=>?_)<;>(try simp only[bN]at hb)<;>simp[hb]))
 all_goals exact hQ
def Adl{α:Type} :∀(n:Nat) (P:Nat->α->Prop),(∀ k,k<n->∃r,P k r)->∃R:List α,R.length=n/\∀k (h:k<R.length),P k R[k]
 |0,P,_=>⟨[],rfl,fun k h=>by simp at h⟩
 |n+1,P,hp=>by
  obtain⟨R,hR,hk⟩:=Adl n P fun k h=>hp k Aa;obtain⟨r,hr⟩:=hp n Aa;refine⟨R++[r],by simp[hR],fun k h=>?_⟩;by_cases e:k<R.length
  . rw[List.getElem_append_left e]; exact hk k e
  have e2:k=n:=by simp at h;omega
  subst e2;rw[List.getElem_append_right Aa]; simp[hR]; exact hr
def Blw(t:Te)(d e u b:Int)(q1:decide (t.op=1)=true)(q2:b<=t.n)(c1 c2:Cn)(h1:Hc 204 [Ad t.con,.int .i64 d,.int .i64 u] (Ad c1))(h2:Hc 204 [Ad t.to,.int .i64 d,.int .i64 u] (Ad c2))(cz:Nat->Int)(Ha:∀k:Nat,Hc 201 [Ah t,.int .i64 k] (.int .i64 (cz k)))(tz:Nat->Int)(M8:∀k:Nat,Hc 205 [Ah t,.int .i64 k] (.int .i64 (tz k)))(R:Na)(hR:R.length=t.l.length)
 (A6:∀k (h:k<t.l.length) (h':k<R.length),Hc 122 [Ah t.l[k],.int .i64 d,.int .i64 e,.int .i64 (IntKind.i64.wrap (u+cz k)),.int .i64 (IntKind.i64.wrap (b+tz k))] (Ah R[k])):Hc 122 [Ah t,.int .i64 d,.int .i64 e,.int .i64 u,.int .i64 b] (Ah (.mk t.op (IntKind.i64.wrap (t.n+e)) t.s c1 c2 t.k t.names R)):=by
 refine Hf Ad5 fun Am Q hQ=>?_;have hf:=Zn (c:=t) (by simpa[Bl,Ah,AV.fits]using Am.1);have B5:t.l.length<=1073741824:=by simpa[A1]using hf.2.2.2.2.1
 clear Am hf;simp[Ah,Aq t,q1,q2];refine Ca h1 ?_;simp[Ad,Ap c1];refine Ca h2 ?_;simp[Ad,Ap c2];refine WL [2] (fun n f h G=>∃k tok,k+n=t.l.length/\f 12= .int .i64 k/\h 2=[.int .i64 t.op,.int .i64 (IntKind.i64.wrap (t.n+e)),.str t.s,.int .i64 c1.op,.int .i64 c1.n,.str c1.s,.sl .none (c1.k.l.map Ak),.sl .none (At c1.names),.sl .none (c1.l.map Ag),.int .i64 c2.op,.int .i64 c2.n,.str c2.s,.sl .none (c2.k.l.map Ak),.sl .none (At c2.names),.sl .none (c2.l.map Ag),.sl .none (t.k.l.map Ak),.sl .none (At t.names),.sl tok ((R.map Bi).take k)]/\owns 3 G tok ((R.map Bi).take k) 18) (t.l.length) Ab ⟨0,.nilT,Ab,rfl,by simp[Fs],Fp _ _ _⟩ ?_;rintro n f h G ⟨k,tok,hk,h8,hh,Bt⟩ Q2 Aj;simp[h8,hh];by_cases Af:k<t.l.length
 . have Cc:k<R.length:=by omega
   have A6:=A6 k Af Cc;have Ha:=Ha k;have M8:=M8 k;simp[Af];refine Wd ?_;simp[Af];refine Da Ha ?_;simp;refine Da M8 ?_;simp;refine Da A6 ?_;simp[Ah,Dx];refine Tp [_,_,_] G (by simp only[Gb,Gx]; rfl) (by simpa using Bt) (by simp[A1]; omega) (P7 (Ea _ _ o0)) Ab fun tok' G' Bv Ei=>?_
   have Xs:(R.map Bi).take (k+1)=(R.map Bi).take k++[Bi R[k]]:=by
    rw[Nj _ _ (by simpa using Cc)]; simp
   rw[<- Xs]at Bv ⊢;simp[Au (n:=(k:Int)+1) Aa Aa];refine Aj (Fo (n-1) (fun _=>[.int .i64 t.op,.int .i64 (IntKind.i64.wrap (t.n+e)),.str t.s,.int .i64 c1.op,.int .i64 c1.n,.str c1.s,.sl .none (c1.k.l.map Ak),.sl .none (At c1.names),.sl .none (c1.l.map Ag),.int .i64 c2.op,.int .i64 c2.n,.str c2.s,.sl .none (c2.k.l.map Ak),.sl .none (At c2.names),.sl .none (c2.l.map Ag),.sl .none (t.k.l.map Ak),.sl .none (At t.names),.sl tok' ((R.map Bi).take (k+1))]) (G':=G') Ab Aa Ab ?_);exact⟨k+1,tok',Aa,Ab,rfl,Bv⟩
 have Dk:(R.map Bi).take k=R.map Bi:=Gj (by simp;omega);simp[Af];refine Aj (Lx ?_);simp[Dk];exact hQ (by simp[Ah,Va])
def Blx(t:Te)(d e u b:Int)(q1:decide (t.op=1)=true)(q2:¬b<=t.n)(c1 c2:Cn)(h1:Hc 204 [Ad t.con,.int .i64 d,.int .i64 u] (Ad c1))(h2:Hc 204 [Ad t.to,.int .i64 d,.int .i64 u] (Ad c2))(cz:Nat->Int)(Ha:∀k:Nat,Hc 201 [Ah t,.int .i64 k] (.int .i64 (cz k)))(tz:Nat->Int)(M8:∀k:Nat,Hc 205 [Ah t,.int .i64 k] (.int .i64 (tz k)))(R:Na)(hR:R.length=t.l.length)
 (A6:∀k (h:k<t.l.length) (h':k<R.length),Hc 122 [Ah t.l[k],.int .i64 d,.int .i64 e,.int .i64 (IntKind.i64.wrap (u+cz k)),.int .i64 (IntKind.i64.wrap (b+tz k))] (Ah R[k])):Hc 122 [Ah t,.int .i64 d,.int .i64 e,.int .i64 u,.int .i64 b] (Ah (.mk t.op t.n t.s c1 c2 t.k t.names R)):=by
 refine Hf Ad5 fun Am Q hQ=>?_;have hf:=Zn (c:=t) (by simpa[Bl,Ah,AV.fits]using Am.1);have B5:t.l.length<=1073741824:=by simpa[A1]using hf.2.2.2.2.1
 clear Am hf;simp[Ah,Aq t,q1,q2];refine Ca h1 ?_;simp[Ad,Ap c1];refine Ca h2 ?_;simp[Ad,Ap c2];refine WL [2] (fun n f h G=>∃k tok,k+n=t.l.length/\f 12= .int .i64 k/\h 2=[.int .i64 t.op,.int .i64 t.n,.str t.s,.int .i64 c1.op,.int .i64 c1.n,.str c1.s,.sl .none (c1.k.l.map Ak),.sl .none (At c1.names),.sl .none (c1.l.map Ag),.int .i64 c2.op,.int .i64 c2.n,.str c2.s,.sl .none (c2.k.l.map Ak),.sl .none (At c2.names),.sl .none (c2.l.map Ag),.sl .none (t.k.l.map Ak),.sl .none (At t.names),.sl tok ((R.map Bi).take k)]/\owns 3 G tok ((R.map Bi).take k) 18) (t.l.length) Ab ⟨0,.nilT,Ab,rfl,by simp[Fs],Fp _ _ _⟩ ?_;rintro n f h G ⟨k,tok,hk,h8,hh,Bt⟩ Q2 Aj;simp[h8,hh];by_cases Af:k<t.l.length
 . have Cc:k<R.length:=by omega
   have A6:=A6 k Af Cc;have Ha:=Ha k;have M8:=M8 k;simp[Af];refine Wd ?_;simp[Af];refine Da Ha ?_;simp;refine Da M8 ?_;simp;refine Da A6 ?_;simp[Ah,Dx];refine Tp [_,_,_] G (by simp only[Gb,Gx]; rfl) (by simpa using Bt) (by simp[A1]; omega) (P7 (Ea _ _ o0)) Ab fun tok' G' Bv Ei=>?_
   have Xs:(R.map Bi).take (k+1)=(R.map Bi).take k++[Bi R[k]]:=by
    rw[Nj _ _ (by simpa using Cc)]; simp
   rw[<- Xs]at Bv ⊢;simp[Au (n:=(k:Int)+1) Aa Aa];refine Aj (Fo (n-1) (fun _=>[.int .i64 t.op,.int .i64 t.n,.str t.s,.int .i64 c1.op,.int .i64 c1.n,.str c1.s,.sl .none (c1.k.l.map Ak),.sl .none (At c1.names),.sl .none (c1.l.map Ag),.int .i64 c2.op,.int .i64 c2.n,.str c2.s,.sl .none (c2.k.l.map Ak),.sl .none (At c2.names),.sl .none (c2.l.map Ag),.sl .none (t.k.l.map Ak),.sl .none (At t.names),.sl tok' ((R.map Bi).take (k+1))]) (G':=G') Ab Aa Ab ?_);exact⟨k+1,tok',Aa,Ab,rfl,Bv⟩
 have Dk:(R.map Bi).take k=R.map Bi:=Gj (by simp;omega);simp[Af];refine Aj (Lx ?_);simp[Dk];exact hQ (by simp[Ah,Va])
def Bly(t:Te)(d e u b:Int)(q1:decide (t.op=1)=false)(c1 c2:Cn)(h1:Hc 204 [Ad t.con,.int .i64 d,.int .i64 u] (Ad c1))(h2:Hc 204 [Ad t.to,.int .i64 d,.int .i64 u] (Ad c2))(cz:Nat->Int)(Ha:∀k:Nat,Hc 201 [Ah t,.int .i64 k] (.int .i64 (cz k)))(tz:Nat->Int)(M8:∀k:Nat,Hc 205 [Ah t,.int .i64 k] (.int .i64 (tz k)))(R:Na)(hR:R.length=t.l.length)
 (A6:∀k (h:k<t.l.length) (h':k<R.length),Hc 122 [Ah t.l[k],.int .i64 d,.int .i64 e,.int .i64 (IntKind.i64.wrap (u+cz k)),.int .i64 (IntKind.i64.wrap (b+tz k))] (Ah R[k])):Hc 122 [Ah t,.int .i64 d,.int .i64 e,.int .i64 u,.int .i64 b] (Ah (.mk t.op t.n t.s c1 c2 t.k t.names R)):=by
 refine Hf Ad5 fun Am Q hQ=>?_;have hf:=Zn (c:=t) (by simpa[Bl,Ah,AV.fits]using Am.1);have B5:t.l.length<=1073741824:=by simpa[A1]using hf.2.2.2.2.1
 clear Am hf;simp[Ah,Aq t,q1];refine Ca h1 ?_;simp[Ad,Ap c1];refine Ca h2 ?_;simp[Ad,Ap c2];refine WL [2] (fun n f h G=>∃k tok,k+n=t.l.length/\f 12= .int .i64 k/\h 2=[.int .i64 t.op,.int .i64 t.n,.str t.s,.int .i64 c1.op,.int .i64 c1.n,.str c1.s,.sl .none (c1.k.l.map Ak),.sl .none (At c1.names),.sl .none (c1.l.map Ag),.int .i64 c2.op,.int .i64 c2.n,.str c2.s,.sl .none (c2.k.l.map Ak),.sl .none (At c2.names),.sl .none (c2.l.map Ag),.sl .none (t.k.l.map Ak),.sl .none (At t.names),.sl tok ((R.map Bi).take k)]/\owns 3 G tok ((R.map Bi).take k) 18) (t.l.length) Ab ⟨0,.nilT,Ab,rfl,by simp[Fs],Fp _ _ _⟩ ?_;rintro n f h G ⟨k,tok,hk,h8,hh,Bt⟩ Q2 Aj;simp[h8,hh];by_cases Af:k<t.l.length
 . have Cc:k<R.length:=by omega
   have A6:=A6 k Af Cc;have Ha:=Ha k;have M8:=M8 k;simp[Af];refine Wd ?_;simp[Af];refine Da Ha ?_;simp;refine Da M8 ?_;simp;refine Da A6 ?_;simp[Ah,Dx];refine Tp [_,_,_] G (by simp only[Gb,Gx]; rfl) (by simpa using Bt) (by simp[A1]; omega) (P7 (Ea _ _ o0)) Ab fun tok' G' Bv Ei=>?_
   have Xs:(R.map Bi).take (k+1)=(R.map Bi).take k++[Bi R[k]]:=by
    rw[Nj _ _ (by simpa using Cc)]; simp
   rw[<- Xs]at Bv ⊢;simp[Au (n:=(k:Int)+1) Aa Aa];refine Aj (Fo (n-1) (fun _=>[.int .i64 t.op,.int .i64 t.n,.str t.s,.int .i64 c1.op,.int .i64 c1.n,.str c1.s,.sl .none (c1.k.l.map Ak),.sl .none (At c1.names),.sl .none (c1.l.map Ag),.int .i64 c2.op,.int .i64 c2.n,.str c2.s,.sl .none (c2.k.l.map Ak),.sl .none (At c2.names),.sl .none (c2.l.map Ag),.sl .none (t.k.l.map Ak),.sl .none (At t.names),.sl tok' ((R.map Bi).take (k+1))]) (G':=G') Ab Aa Ab ?_);exact⟨k+1,tok',Aa,Ab,rfl,Bv⟩
 have Dk:(R.map Bi).take k=R.map Bi:=Gj (by simp;omega);simp[Af];refine Aj (Lx ?_);simp[Dk];exact hQ (by simp[Ah,Va])
def Blz(t:Te)(l:Ax)(u:Int)(c1 c2:Cn)(h1:Hc 200 [Ad t.con,.sl .none (l.map Ag),.int .i64 u] (Ad c1))(h2:Hc 200 [Ad t.to,.sl .none (l.map Ag),.int .i64 u] (Ad c2))(cz:Nat->Int)(Ha:∀k:Nat,Hc 201 [Ah t,.int .i64 k] (.int .i64 (cz k)))(R:Na)(hR:R.length=t.l.length)
 (A6:∀k (h:k<t.l.length) (h':k<R.length),Hc 119 [Ah t.l[k],.sl .none (l.map Ag),.int .i64 (IntKind.i64.wrap (u+cz k))] (Ah R[k])):Hc 119 [Ah t,.sl .none (l.map Ag),.int .i64 u] (Ah (.mk t.op t.n t.s c1 c2 t.k t.names R)):=by
 refine Hf Bg3 fun Am Q hQ=>?_;have hf:=Zn (c:=t) (by simpa[Bl,Ah,AV.fits]using Am.1);have B5:t.l.length<=1073741824:=by simpa[A1]using hf.2.2.2.2.1
 clear Am hf;simp[Ah,Aq t];refine Ca h1 ?_;simp[Ad,Ap c1];refine Ca h2 ?_;simp[Ad,Ap c2];refine WL [2] (fun n f h G=>∃k tok,k+n=t.l.length/\f 8= .int .i64 k/\h 2=[.int .i64 t.op,.int .i64 t.n,.str t.s,.int .i64 c1.op,.int .i64 c1.n,.str c1.s,.sl .none (c1.k.l.map Ak),.sl .none (At c1.names),.sl .none (c1.l.map Ag),.int .i64 c2.op,.int .i64 c2.n,.str c2.s,.sl .none (c2.k.l.map Ak),.sl .none (At c2.names),.sl .none (c2.l.map Ag),.sl .none (t.k.l.map Ak),.sl .none (At t.names),.sl tok ((R.map Bi).take k)]/\owns 3 G tok ((R.map Bi).take k) 18) (t.l.length) Ab ⟨0,.nilT,Ab,rfl,by simp[Fs],Fp _ _ _⟩ ?_;rintro n f h G ⟨k,tok,hk,h8,hh,Bt⟩ Q2 Aj;simp[h8,hh];by_cases Af:k<t.l.length
 . have Cc:k<R.length:=by omega
   have A6:=A6 k Af Cc;have Ha:=Ha k;simp[Af];refine Wd ?_;simp[Af];refine Da Ha ?_;simp;refine Da A6 ?_;simp[Ah,Dx];refine Tp [_,_,_] G (by simp only[Gb,Gx]; rfl) (by simpa using Bt) (by simp[A1]; omega) (P7 (Ea _ _ o0)) Ab fun tok' G' Bv Ei=>?_
   have Xs:(R.map Bi).take (k+1)=(R.map Bi).take k++[Bi R[k]]:=by
    rw[Nj _ _ (by simpa using Cc)]; simp
   rw[<- Xs]at Bv ⊢;simp[Au (n:=(k:Int)+1) Aa Aa];refine Aj (Fo (n-1) (fun _=>[.int .i64 t.op,.int .i64 t.n,.str t.s,.int .i64 c1.op,.int .i64 c1.n,.str c1.s,.sl .none (c1.k.l.map Ak),.sl .none (At c1.names),.sl .none (c1.l.map Ag),.int .i64 c2.op,.int .i64 c2.n,.str c2.s,.sl .none (c2.k.l.map Ak),.sl .none (At c2.names),.sl .none (c2.l.map Ag),.sl .none (t.k.l.map Ak),.sl .none (At t.names),.sl tok' ((R.map Bi).take (k+1))]) (G':=G') Ab Aa Ab ?_);exact⟨k+1,tok',Aa,Ab,rfl,Bv⟩
 have Dk:(R.map Bi).take k=R.map Bi:=Gj (by simp;omega);simp[Af];refine Aj (Lx ?_);simp[Dk];exact hQ (by simp[Ah,Va])
def Ayb(t:Te)(d e u b:Int):∃r,Hc 122 [Ah t,.int .i64 d,.int .i64 e,.int .i64 u,.int .i64 b] (Ah r):=by
 obtain⟨c1,h1⟩:=Ax8 t.con d u;obtain⟨c2,h2⟩:=Ax8 t.to d u;have Ha:=fun k:Nat=>(wd t k).choose_spec.1;have M8:=fun k:Nat=>(Ax5 t k).choose_spec;generalize Acg:(fun k:Nat=>(wd t (k:Int)).choose)=cz;generalize htze:(fun k:Nat=>(Ax5 t (k:Int)).choose)=tz;have Ha:∀k:Nat,Hc 201 [Ah t,.int .i64 k] (.int .i64 (cz k)):=fun k=>by rw[<- Acg]; exact Ha k
 have M8:∀k:Nat,Hc 205 [Ah t,.int .i64 k] (.int .i64 (tz k)):=fun k=>by rw[<- htze]; exact M8 k
 obtain⟨R,hR,hk⟩:=Adl t.l.length (fun k r=>∀h:k<t.l.length,Hc 122 [Ah t.l[k],.int .i64 d,.int .i64 e,.int .i64 (IntKind.i64.wrap (u+cz k)),.int .i64 (IntKind.i64.wrap (b+tz k))] (Ah r)) fun k h=>by
  obtain⟨r,hr⟩:=Ayb t.l[k] d e (IntKind.i64.wrap (u+cz k)) (IntKind.i64.wrap (b+tz k));exact⟨r,fun _=>hr⟩
 have A6:=fun k (h:k<t.l.length) (h':k<R.length)=>hk k h' h;cases q1:decide (t.op=1)
 . exact⟨_,Bly t d e u b q1 c1 c2 h1 h2 cz Ha tz M8 R hR A6⟩
 by_cases q2:b<=t.n
 . exact⟨_,Blw t d e u b q1 q2 c1 c2 h1 h2 cz Ha tz M8 R hR A6⟩
 exact⟨_,Blx t d e u b q1 q2 c1 c2 h1 h2 cz Ha tz M8 R hR A6⟩
termination_by SizeOf.sizeOf t
decreasing_by exact Te.lt_l (Cy _)
def Ax3(t:Te)(d e:Int):∃r,Hc 53 [Ah t,.int .i64 d,.int .i64 e] (Ah r):=by
 obtain⟨r,hr⟩:=Ayb t d e 0 0;refine⟨r,?_⟩;refine Hg Bgv fun Q hQ=>?_;simp[Ah,Aq t];refine Ca hr ?_;simp[Ah,Aq r];exact hQ (by simp[Ah,Aq r])
def teD:Nat->Te->Prop
 |0,_=>False
 |h+1,t=>Bo t.con<=1000/\Bo t.to<=1000/\∀x∈t.l,teD h x
def Ayc(l:List Cn):∀(h:Nat) (t:Te) (u:Int),teD h t->0<=u->u+h<=1000000->∃r,Hc 119 [Ah t,.sl .none (l.map Ag),.int .i64 u] (Ah r)
 |0,_,_,ht,_,_=>ht.elim
 |h+1,t,u,ht,h0,hu=>by
  obtain⟨c1,h1⟩:=Ax9 l t.con u h0 Aa ht.1;obtain⟨c2,h2⟩:=Ax9 l t.to u h0 Aa ht.2.1;have Ha:=fun k:Nat=>(wd t k).choose_spec;generalize Acg:(fun k:Nat=>(wd t (k:Int)).choose)=cz;have Ha:∀k:Nat,Hc 201 [Ah t,.int .i64 k] (.int .i64 (cz k))/\0<=cz k/\cz k<=1:=fun k=>by rw[<- Acg]; exact Ha k
  obtain⟨R,hR,hk⟩:=Adl t.l.length (fun k r=>∀h:k<t.l.length,Hc 119 [Ah t.l[k],.sl .none (l.map Ag),.int .i64 (IntKind.i64.wrap (u+cz k))] (Ah r)) fun k hk=>by
   have hb:=Ha k;obtain⟨r,hr⟩:=Ayc l h t.l[k] (IntKind.i64.wrap (u+cz k)) (ht.2.2 _ (Cy _)) (by rw[Au Aa Aa]; omega) (by rw[Au Aa Aa]; omega);exact⟨r,fun _=>hr⟩
  exact⟨_,Blz t l u c1 c2 h1 h2 cz (fun k=>(Ha k).1) R hR fun k h h'=>hk k h' h⟩
def Blt(l:Ax)(t:Te)(h:Nat)(ht:teD h t)(hh:h<=1000):∃r,Hc 49 [Ah t,.sl .none (l.map Ag)] (Ah r):=by
 obtain⟨r,hr⟩:=Ayc l h t 0 ht Aa Aa;refine⟨r,?_⟩;refine Hg Bgx fun Q hQ=>?_;simp[Ah,Aq t];refine Ca hr ?_;simp[Ah,Aq r];exact hQ (by simp[Ah,Aq r])
end
