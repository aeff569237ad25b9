/- A part of the proof that LiftApplies answers true. -/
import Derived.Test.YtndkeknbfbdeeaaGreatDoorG26
set_option linter.all false
set_option maxHeartbeats 4000000
set_option maxRecDepth 100000
namespace Go.Proofs.YtndkeknbfbdeeaaGreatDoor
open Go
variable {e:El}
section
open Go.RowKit
attribute [local simp] Cb Cq
def A6u{f a:El}{l:Ax}{c:Te}{x:El}{E:Int}(h:Pm Tryz.prog 26 [.ptr 0 0,.ptr 1 0,.ptr 2 0,.ptr 3 0] (E5 f a l c++cL) (As x) E)(hx:E=0->Kv x):
 HP 25 [.fn (.func 26) [] [.ptr 0 0,.ptr 1 0,.ptr 2 0,.ptr 3 0]] (E5 f a l c) (Cr (if E=0 then caR x else(D7,E))) (E5 f a l c):=by
 have A8:Be (E5 f a l c).length (E5 f a l c)=true:=by
  have:=Aau (E5 f a l c).length f a l c;rw[Nh]at this;exact(Bb _ _▸this).1
 by_cases h0:E=0
 . subst h0;rw[Ae rfl];exact Bbm rfl A8 h.ok (hx rfl)
 rw[Ac h0];exact Bbl rfl A8 (h.die h0)
def A6m{f a:El}{l:Ax}{c:Te}(hC:I3 f a l c=true)(h1:f.s.op=6)(h2:l.length=f.s.ks.length){E:Int}{x:El}(hx:E=0->Kv x)(hE:E=0\/E=6\/(E=27/\Qe f a l))
 (hgood:E=0->∃r t,x=⟨Nn f a,if Lf f a=true then G5 f a else [],Lf f a,r,t⟩/\(E0 f.s a.ks.length 0).2=0/\Iz (lY f a) f.s.more l=(r,0)):Wl f a l c (if E=0 then caR x else(D7,E)):=by
 by_cases h0:E=0
 . rw[Ae h0];unfold caR;split
   . rename_i hf;obtain⟨r,t,rfl,g1,g2⟩:=hgood h0;exact .good hC h1 h2 r t g1 g2 (by rw[<- Vp (hx h0)]; exact hf)
   exact .err hC h1 h2 6 (.inl rfl)
 rw[Ac h0];exact .err hC h1 h2 E (hE.resolve_left h0)
def Bqm:Dg Cj:=by
 rw[We];exact⟨by show Al A3<=_;decide,by show Al A3<=_;decide,fun x hx=>by cases hx⟩
def R2{a b:Int}(h:(if a≠0 then a else b)=0):a=0/\b=0:=by
 split at h
 . rename_i h1;exact absurd h h1
 rename_i h1;exact⟨Decidable.not_not.1 h1,h⟩
def Xc{P:Int->Prop}{a b:Int}(ha:a≠0->P a)(hb:a=0->P b):P (if a≠0 then a else b):=by
 split
 . rename_i h;exact ha h
 rename_i h;exact hb (Decidable.not_not.1 h)
def Agh{l:B6}(h:J2 l=true):l.all Eu=true:=by
 unfold J2 at h;exact(Bb _ _▸h).2
def Bb3{s:Sm}(h:Cp s=true)(hop:s.op=6):s.more.all Eu=true:=by
 simp only[Cp,m5,hop,Bb]at h;simp only[show ¬(6:Int)=4 by omega,Bq,Bp,Bb]at h;have h2:=h.2.2.2.2.2.1;unfold J1 at h2;simp only[Bb]at h2;exact h2.2
def Ask(hp:e.pure=true)(hf:R0 e=true):Ly e.ks e.s e.w e.t=true:=by
 unfold R0 at hf;simp only[Bb]at hf;obtain⟨⟨⟨⟨h1,h2⟩,h3⟩,h4⟩,h5⟩:=hf;unfold On at h5;rw[Ae hp]at h5;unfold Ly;rw[h2,Agh h1,h3,h4,h5]; rfl
def Auo(hb:Kv e)(hf:R0 e=true):(Ho e).2=0\/(Ho e).2=6:=by
 unfold Ho;split
 . rename_i hp;exact(Aep (mi hb hf) (Ask hp hf)).1
 exact .inl rfl
def A97(hb:Kv e)(hf:R0 e=true)(ht:Ds 400 e.t/\wT e.t<=20000)(h:(Ho e).2=0):Ds 400 (Ho e).1.t/\wT (Ho e).1.t<=20000:=by
 unfold Ho at h ⊢;split
 . rename_i hp;rw[Ae hp]at h;exact⟨(wk (mi hb hf)).2 h,(Aep (mi hb hf) (Ask hp hf)).2 h⟩
 exact ht
def Bbd(f a:El)(l:Ax)(c:Te)(M3:Kv f)(Nq:Kv a)(Kc:∀x∈l,Al x<=1000000000000)(hbc:Dg c)(hw:Few f a l c):
 ∃p,Hc 6 [As f,As a,.sl .none (l.map Ag),Ah c] (Cr p)/\Wl f a l c p:=by
 have hf:=Adh f M3;have ha:=Adh a Nq;have hl:=Avf l Kc;have hc:=(Wf c hbc).1;rw[Vp M3]at hf;rw[Vp Nq]at ha;rw[A1n hbc]at hc;cases e1:I9 f
 . rw[e1]at hf;exact⟨_,Bbe f a l c hf,.arg (by simp[I3,e1])⟩
 cases e2:I9 a
 . rw[e1]at hf;rw[e2]at ha;exact⟨_,Bbf f a l c hf ha,.arg (by simp[I3,e2])⟩
 cases e3:l.all Ar
 . rw[e1]at hf;rw[e2]at ha;rw[e3]at hl;exact⟨_,Bbg f a l c hf ha hl,.arg (by rw[I3,e3]; simp)⟩
 cases e4:U6 c
 . rw[e1]at hf;rw[e2]at ha;rw[e3]at hl;rw[e4]at hc;exact⟨_,Bbh f a l c hf ha hl hc,.arg (by rw[I3,e4]; simp)⟩
 rw[e1]at hf;rw[e2]at ha;rw[e3]at hl;rw[e4]at hc;have hC:I3 f a l c=true:=by rw[I3,e1,e2,e3,e4]; rfl
 by_cases hop:f.s.op=6
 case neg=>exact⟨_,Bbi f a l c hf ha hl hc hop,.typ hC hop⟩
 by_cases hlen:l.length=f.s.ks.length
 case neg=>exact⟨_,Bbj f a l c hf ha hl hc hop hlen,.len hC hop hlen⟩
 obtain⟨f1,f2,f3,f4,f5,f6⟩:=X3 e1;obtain⟨a1,a2,a3,a4,a5,a6⟩:=X3 e2;have Qa:∀x∈l,Ar x=true:=fun x hx=>List.all_eq_true.1 e3 x hx;have hvc:=(oh c).1 e4;have hfk:=hw.fk;have Dw:=hw.fl;have nf:=((X9 f.s).1 (Vr f2)).1;have Aub:=(n6 nf).2;have hK:=A0z [f.ks,a.ks,f.s.more] (by simp[Mh]; omega);rw[A6r]at hK;change C7 _ _ _ _ (AV.sl Dh.none ((Nn f a).map Ak)) _ at hK;have hKl:(Nn f a).length<=1000:=by simp[Nn]; omega
 have hKv:(Nn f a).all Eu=true:=by
  have g1:J2 f.ks=true:=by unfold I9 at e1;simp only[Bb]at e1;exact e1.1.1.1.1
  have g2:J2 a.ks=true:=by unfold I9 at e2;simp only[Bb]at e2;exact e2.1.1.1.1
  rw[Nn,Wm,Wm,Agh g1,Agh g2,Bb3 nf hop]; rfl
 have Br:=Adk f.s a.ks.length 0 M3.s Aa Aa Aa Aa;have Aue:=Bo7 f2 (a.ks.length:Int) 0
 have H9:(E0 f.s a.ks.length 0).2=0->(E0 f.s a.ks.length 0).1.l=[(E0 f.s a.ks.length 0).1.l.getD 0 Dl,lY f a]:=fun h=>by
  obtain⟨g1,g2⟩:=xe h;have g3:=(U2 ((X9 _).1 (Vr g1)).1).2.2.1 (by rw[g2]; exact hop);unfold lY;generalize (E0 f.s a.ks.length 0).1.l=L at g3
  match L,g3 with
  | [x,y],_=>rfl
 have I6:=Bbt (lY f a) f.s.more l (Baz f a) Kc
 have A9x:(E0 f.s a.ks.length 0).2=0->(Iz (lY f a) f.s.more l).2=0\/(Iz (lY f a) f.s.more l).2=6\/(Iz (lY f a) f.s.more l).2=27:=fun h=>by
  obtain⟨g1,g2⟩:=xe h;have g3:=A2w g1 (by rw[g2]; exact hop) (H9 h);rw[A0w f2 a1 h,A0a]at g3;exact Bnj g3 e3 Aa
 have nk:=Bni (lY f a) f.s.more l;have Xq:(Iz (lY f a) f.s.more l).2=0->Iz (lY f a) f.s.more l=((Iz (lY f a) f.s.more l).1,0):=fun h=>Prod.ext rfl h;obtain⟨r,hr⟩:∃r,r=(Iz (lY f a) f.s.more l).1:=⟨_,rfl⟩;obtain⟨ep,hep⟩:∃ep,ep=(Iz (lY f a) f.s.more l).2:=⟨_,rfl⟩
 have Me:ep=0->Cu r=true:=fun h=>by
  rw[hep]at h;obtain⟨g1,q,g2,g3⟩:=Ayw h;rw[hr,g3];exact Bkx g1 (by rw[g2]; simp)
 have hbud:∀E,(E0 f.s a.ks.length 0).2=0->ep=27->E=ep->E=0\/E=6\/(E=27/\Qe f a l):=fun E h1 h2 h3=>.inr (.inr ⟨by rw[h3,h2],.inl ⟨h1,by rw[<- hep]; exact h2⟩⟩)
 have Aud:∀h:(E0 f.s a.ks.length 0).2=0,ep=0\/ep=6\/(ep=27/\Qe f a l):=fun h=>by
  have:=A9x h;rw[<- hep]at this;rcases this with g|g|g
  . exact .inl g
  . exact .inr (.inl g)
  exact hbud ep h g rfl
 rw[<- hr]at I6 Xq nk;rw[<- hep]at I6 Xq
 have Gl:∀(E:Int) (x:El),Pm Tryz.prog 26 [.ptr 0 0,.ptr 1 0,.ptr 2 0,.ptr 3 0] (E5 f a l c++cL) (As x) E->(E=0->Kv x)->(E=0\/E=6\/(E=27/\Qe f a l))->(E=0->∃t,x=⟨Nn f a,if Lf f a=true then G5 f a else [],Lf f a,r,t⟩/\(E0 f.s a.ks.length 0).2=0/\ep=0)->
  ∃p,Hc 6 [As f,As a,.sl .none (l.map Ag),Ah c] (Cr p)/\Wl f a l c p:=fun E x hB hx hE hg=>
  ⟨_,Bbk f a l c hf ha hl hc hop hlen _ (A6u hB hx),A6m hC hop hlen hx hE fun h=>by
   obtain⟨t,g1,g2,g3⟩:=hg h
   exact⟨r,t,g1,g2,Xq g3⟩⟩
 cases hap:Lf f a
 case true=>
  have Xj:=hap;simp only[Lf,Bb,Aw]at Xj;obtain⟨p1,p2,p3⟩:=Xj;have hWl:(G5 f a).length<=1000:=by rw[G5,Po,f5 p1,a5 p2]; omega
  have hWv:∀x∈G5 f a,Ar x=true:=fun x hx=>by
   rcases List.mem_append.1 hx with h|h
   . exact f4 x h
   exact a4 x h
  have ip:∀x∈G5 f a,Al x<=1000000000000:=fun x hx=>dw (hWv x hx);have hW:=Bpd [f.w,a.w] (by simp[Nb]; rw[G5,Po]at hWl;omega);rw[A6q]at hW;change C7 _ _ _ _ (AV.sl Dh.none ((G5 f a).map Ag)) _ at hW;obtain⟨⟨u,e4'⟩,Jh,hfi2,tw⟩:=Bbo c (G5 f a) hbc ip;have tw:=tw hvc.1 hvc.2 (List.all_eq_true.2 hWv) hWl;simp only at Jh hfi2 tw;have hcerr:=Ara hWv hWl l Qa;have Ha:=Arc ip l Kc;obtain⟨cs,B7⟩:∃cs,cs=(Ms (G5 f a) l).1:=⟨_,rfl⟩;have hB:=Bbc f a l c hop Kc Aa (Nn f a) hK _ _ Br _ _ H9 r ep I6 p1 p2 p3 (G5 f a) hW ip cs (Ms (G5 f a) l).2 (by rw[B7]) u e4' Jh _ rfl;refine Gl _ _ hB (fun h=>?_) ?_ (fun h=>?_)
  . obtain⟨g1,h⟩:=R2 h;obtain⟨g2,h⟩:=R2 h;obtain⟨g3,h⟩:=R2 h;refine⟨nk,k6 fun z hz=>?_,fun z hz=>ip z hz⟩;simp only[Pp,Pq,Iy]at hz;rcases hz with rfl|rfl
    . exact Atl cs f.t M3.t (by rw[B7]; exact Ha)
    refine k6 fun z hz=>?_;simp only[Pp,Pq,Iy]at hz;rcases hz with rfl|rfl
    . exact Tg _ _ (hfi2 h)
    exact Nq.t
  . refine Xc (P:=fun E=>E=0\/E=6\/(E=27/\Qe f a l)) (fun h=>.inr (.inl (Aue.resolve_left h))) fun g1=>?_;refine Xc (P:=fun E=>E=0\/E=6\/(E=27/\Qe f a l)) (fun h=>Aud g1) fun g2=>?_;refine Xc (P:=fun E=>E=0\/E=6\/(E=27/\Qe f a l)) (fun h=>?_) fun g3=>?_
    . rcases hcerr with h'|h'|h'
      . exact .inl h'
      . exact .inr (.inl h')
      exact .inr (.inr ⟨h',.inr ⟨hap,h'⟩⟩)
    rcases tw with h'|h'
    . exact .inl h'
    exact .inr (.inl h')
  obtain⟨g1,h⟩:=R2 h;obtain⟨g2,h⟩:=R2 h;exact⟨_,by rw[hap]; rfl,g1,g2⟩
 case false=>
  have be:f.pure=false\/(f.pure=true/\a.pure=false)\/(f.pure=true/\a.pure=true/\¬f.s.n=1):=by
   unfold Lf at hap;cases h1:f.pure
   . exact .inl rfl
   cases h2:a.pure
   . exact .inr (.inl ⟨rfl,rfl⟩)
   exact .inr (.inr ⟨rfl,rfl,by rw[h1,h2]at hap;simpa using hap⟩)
  obtain⟨v1,H8,hv1a,hv1b⟩:=vm f.ks.length f1;obtain⟨v2,Jl,hv2a,hv2b⟩:=vm a.ks.length a1;obtain⟨⟨cm,e5⟩,Y9,bb,ue⟩:=Avi c 0 (v1+v2) hbc Aa Aa Aa Aa;have ue:=ue hvc.1 hvc.2;simp only at Y9 bb ue;have hV:=Xu 1 v2 [];have hZ:=Xu 1 0 [];have hN:=Xu 5 0 [cm,C5 1 0 []];have hB:=Avc (C5 1 v2 []) l (C5 5 0 [cm,C5 1 0 []]);have hVo:Ds 1 (C5 1 v2 []):=A1j Aa Aa;have hZo:Ds 1 (C5 1 0 []):=A1j Aa Aa;obtain⟨hL1,hL2⟩:=Atk l (C5 1 v2 []) 1 hVo Qa;obtain⟨B,hBe⟩:∃B,B=C5 5 0 [l.foldl Gi (C5 1 v2 []),C5 5 0 [cm,C5 1 0 []]]:=⟨_,rfl⟩
  have hBo:e5=0->Ds 400 B/\wT B<=20000:=fun h=>by
   obtain⟨m1,m2,m3,m4⟩:=bb h;have hd:=hw.fd;have hs:=hw.fs;have t1:Ds 200 cm:=A1h _ _ _ m1 Aa;have t2:=A1i t1 (kz _ 200 _ hZo Aa);have t3:=A1i (kz _ 201 _ hL1 Aa) t2;rw[hBe];refine⟨kz _ _ _ t3 Aa,?_⟩;rw[A2p,A2p,hL2,Agk,Agk];omega
  have hVB:Dg (C5 1 v2 []):=Tg _ _ hVo;have hZB:Dg (C5 1 0 []):=Tg _ _ hZo;rw[<- hBe]at hB;have himp1:=Avg f M3 (by rw[Vp M3]; exact e1);have himp2:=Avg a Nq (by rw[Vp Nq]; exact e2);have i7:=Auo M3 (by rw[Vp M3]; exact e1);have i8:=Auo Nq (by rw[Vp Nq]; exact e2);have b7:=Aun M3 (by rw[Vp M3]; exact e1);have b8:=Aun Nq (by rw[Vp Nq]; exact e2);have w8:=A97 Nq (by rw[Vp Nq]; exact e2) ((oh a.t).1 a3)
  obtain⟨m2,e9,hm2,hm2o,il⟩:∃m2 e9,((Ho a).2=0->Kr Tryz.prog 35 [Ah (Ho a).1.t,.int .i64 (f.ks.length:Int),.int .i64 v1] (Ah m2) e9)/\((Ho a).2=0->e9=0->Dg m2)/\(e9=0\/e9=6):=by
   by_cases h:(Ho a).2=0
   . obtain⟨⟨m2,e9⟩,g1,g2,g3⟩:=Avi (Ho a).1.t f.ks.length v1 (b8 h).t Aa Aa Aa Aa;exact⟨m2,e9,fun _=>g1,fun _ h9=>Tg _ _ (g2 h9).1,g3 (w8 h).1 (w8 h).2⟩
   exact⟨Cj,0,fun h'=>absurd h' h,fun h'=>absurd h' h,.inl rfl⟩
  obtain⟨b2,e6,Mc,hb2o,h6e⟩:∃b2 e6,(ep=0->e5=0->(f.s.n=1/\Kr Tryz.prog 36 [.sl .none ((Nn f a).map Ak),An r,Ah B] (Ah b2) e6)\/(¬ f.s.n=1/\∃p0,Kr Tryz.prog 36 [.sl .none ((Nn f a).map Ak),An r,Ah (C5 1 0 [])] (Ah p0) e6/\(e6=0->Hc 37 [.int .i64 (f.s.more.length:Int),Ah B,Ah p0] (Ah b2))))/\(e6=0->Dg b2)/\(e6=0\/e6=6):=by
   by_cases h50:ep=0/\e5=0
   case neg=>exact⟨Cj,0,fun h1 h2=>absurd ⟨h1,h2⟩ h50,fun _=>Bqm,.inl rfl⟩
   obtain⟨Xp,h5⟩:=h50;obtain⟨O5,M1⟩:=hBo h5;by_cases hn:f.s.n=1
   . obtain⟨⟨p,e6⟩,g1,g2,g3⟩:=Avj (Nn f a) r B nk (Tg _ _ O5) hKl;exact⟨p,e6,fun _ _=>.inl ⟨hn,g1⟩,fun h6=>Tg _ _ (g2 h6).1,g3 (Me Xp) hKv O5 M1⟩
   obtain⟨⟨p,e6⟩,g1,g2,g3⟩:=Avj (Nn f a) r (C5 1 0 []) nk hZB hKl;have g3:=g3 (Me Xp) hKv (kz _ _ _ hZo Aa) (by rw[Agk]; omega);by_cases h6:e6=0
   . obtain⟨b2,k1,k2⟩:=Adj f.s.more.length B p Aa Aa (Tg _ _ O5) (Tg _ _ (g2 h6).1);exact⟨b2,e6,fun _ _=>.inr ⟨hn,p,g1,fun _=>k1⟩,fun _=>k2,g3⟩
   exact⟨Cj,e6,fun _ _=>.inr ⟨hn,p,g1,fun h=>absurd h h6⟩,fun h=>absurd h h6,g3⟩
  obtain⟨o1,Iv⟩:∃o1,(Ho a).2=0->e9=0->e6=0->Hc 37 [.int .i64 (a.ks.length:Int),Ah m2,Ah b2] (Ah o1)/\Dg o1:=by
   by_cases h:(Ho a).2=0/\e9=0/\e6=0
   . obtain⟨o1,k1,k2⟩:=Adj a.ks.length m2 b2 Aa Aa (hm2o h.1 h.2.1) (hb2o h.2.2);exact⟨o1,fun _ _ _=>⟨k1,k2⟩⟩
   exact⟨Cj,fun h1 h2 h3=>absurd ⟨h1,h2,h3⟩ h⟩
  obtain⟨o2,P9⟩:∃o2,(Ho f).2=0->(Ho a).2=0->e9=0->e6=0->Hc 37 [.int .i64 (f.ks.length:Int),Ah (Ho f).1.t,Ah o1] (Ah o2)/\Dg o2:=by
   by_cases h:(Ho f).2=0/\(Ho a).2=0/\e9=0/\e6=0
   . obtain⟨o2,k1,k2⟩:=Adj f.ks.length (Ho f).1.t o1 Aa Aa (b7 h.1).t (Iv h.2.1 h.2.2.1 h.2.2.2).2;exact⟨o2,fun _ _ _ _=>⟨k1,k2⟩⟩
   exact⟨Cj,fun h1 h2 h3 h4=>absurd ⟨h1,h2,h3,h4⟩ h⟩
  have hA:=Bbb f a l c hop Kc Aa (Nn f a) hK _ _ Br _ _ H9 r ep I6 be v1 v2 H8 Jl (Au Aa Aa) cm e5 Y9 _ _ _ B hV hZ hN hB b2 e6 Mc (Ho f).1 (Ho a).1 m2 o1 o2 _ _ e9 himp1 himp2 hm2 i7 i8 il (fun h1 h2 h3=>(Iv h1 h2 h3).1) (fun h1 h2 h3 h4=>(P9 h1 h2 h3 h4).1) _ rfl;refine Gl _ _ hA (fun h=>?_) ?_ (fun h=>?_)
  . obtain⟨g1,h⟩:=R2 h;obtain⟨g2,h⟩:=R2 h;obtain⟨g5,h⟩:=R2 h;obtain⟨g6,h⟩:=R2 h;obtain⟨g7,h⟩:=R2 h;obtain⟨g8,h⟩:=R2 h;exact⟨nk,(P9 g7 g8 h g6).2,fun z hz=>by cases hz⟩
  . refine Xc (P:=fun E=>E=0\/E=6\/(E=27/\Qe f a l)) (fun h=>.inr (.inl (Aue.resolve_left h))) fun g1=>?_;refine Xc (P:=fun E=>E=0\/E=6\/(E=27/\Qe f a l)) (fun h=>Aud g1) fun g2=>?_;have six:∀E:Int,(E=0\/E=6)->E=0\/E=6\/(E=27/\Qe f a l):=fun E h=>h.elim .inl fun h=>.inr (.inl h);refine Xc (P:=fun E=>E=0\/E=6\/(E=27/\Qe f a l)) (fun _=>six _ ue) fun _=>?_;refine Xc (P:=fun E=>E=0\/E=6\/(E=27/\Qe f a l)) (fun _=>six _ h6e) fun _=>?_;refine Xc (P:=fun E=>E=0\/E=6\/(E=27/\Qe f a l)) (fun _=>six _ i7) fun _=>?_;exact Xc (P:=fun E=>E=0\/E=6\/(E=27/\Qe f a l)) (fun _=>six _ i8) fun _=>six _ il
  obtain⟨g1,h⟩:=R2 h;obtain⟨g2,h⟩:=R2 h;exact⟨o2,by rw[hap]; rfl,g1,g2⟩
end
def wm1{n:Int}(h0:0<=n)(h1:n<=3000):IntKind.i64.wrap (n-1)=n-1:=Au Aa Aa
def Z4{α:Type}(q:α->Int->Bool×Int)(w:α->Int):∀(l:List α),(∀ x∈l,∀n,0<=n->n<=3000->(q x n).1=false->0<=(q x n).2/\(q x n).2+w x<=n/\0<=w x)->∀n,0<=n->n<=3000->(C4 q l n).1=false->0<=(C4 q l n).2/\(C4 q l n).2+(l.map w).sum<=n
 | [],_,n,h0,_,_=>by simp[C4]; exact h0
 |x::l,hq,n,h0,h1,h=>by
  rw[C4]at h ⊢;split at h
  . cases h
  rename_i hx;rw[Ac hx];obtain⟨g1,g2,g3⟩:=hq x Ab n h0 h1 (by simpa using hx);obtain⟨g4,g5⟩:=Z4 q w l (fun y hy=>hq y (by simp[hy])) _ g1 Aa h;exact⟨g4,by rw[F8,z8]; omega⟩
def Aat{α:Type}(q:α->Int->Bool×Int)(P:α->Prop):∀(l:List α),(∀ x∈l,∀n,0<=n->n<=3000->(q x n).1=false->0<=(q x n).2/\(q x n).2<=n/\P x)->∀n,0<=n->n<=3000->(C4 q l n).1=false->∀x∈l,P x
 | [],_,_,_,_,_,x,hx=>by cases hx
 |y::l,hq,n,h0,h1,h,x,hx=>by
  rw[C4]at h;split at h
  . cases h
  rename_i hy;obtain⟨g1,g2,g3⟩:=hq y Ab n h0 h1 (by simpa using hy);rcases List.mem_cons.1 hx with rfl|hx
  . exact g3
  exact Aat q P l (fun z hz=>hq z (by simp[hz])) _ g1 Aa h x hx
def Afx{α:Type}(l:List α):(l.map fun _=>(0:Int)).sum=0:=by
 induction l with
 |nil=>rfl
 |cons x l ih=>rw[F8,z8,ih]; rfl
def gy:∀(k:Kd) (n:Int),0<=n->n<=3000->(fk k n).1=true->0<=(fk k n).2/\(fk k n).2<=n
 | .mk l,n,h0,h1,h=>by
   rw[Atd,wm1 h0 h1]at h ⊢;split at h
   . cases h
   rename_i h2;rw[Ac h2];simp only[Mn]at h ⊢
   have:=Z4 Jz (fun _=>0) l (fun x hx n h0 h1 hh=>by
    have:=gy x n h0 h1 (by simpa[Jz]using hh)
    simp only[Jz]; omega) (n-1) Aa Aa h
   rw[Afx]at this;exact⟨this.1,by have:=this.2;simp only[Kd.l]at this ⊢; omega⟩
def Aru(l:Ax):(Bd l:Int)=(l.map fun c=>(Al c:Int)).sum:=by
 induction l with
 |nil=>rfl
 |cons c l ih=>rw[Bd,F8,z8,<-ih]; simp
def gq:∀(c:Cn) (n d:Int),0<=n->n<=3000->(fc c n d).1=true->0<=(fc c n d).2/\(fc c n d).2+Al c<=n
 | .mk o nn s k ns l,n,d,h0,h1,h=>by
   have Cl:=Ir (.mk o nn s k ns l);have uk:=Aru l;rw[As4,wm1 h0 h1]at h ⊢;split at h
   . cases h
   rename_i h2;have h2':¬n-1<0:=fun h=>h2 (.inl h);rw[Ac h2];split at h
   . rename_i h3;rw[h3]at h;cases h
   rename_i h3;rw[Ac h3];obtain⟨g1,g2⟩:=gy k (n-1) Aa Aa (by simpa[Cn.k]using h3);simp only[Mn,Cn.k,Cn.l]at h ⊢ Cl
   have:=Z4 (Jy (IntKind.i64.wrap (d+1))) (fun c=>(Al c:Int)) l (fun x hx n h0 h1 hh=>by
    have:=gq x n _ h0 h1 (by simpa[Jy]using hh)
    simp only[Jy]; omega) (fk k (n-1)).2 g1 Aa h
   exact⟨this.1,by have:=this.2;omega⟩
def Le{a:Bool×Int}{f:Int->Bool×Int}(h:(Dn a f).1=true):a.1=true/\(f a.2).1=true/\Dn a f=f a.2:=by
 unfold Dn at h ⊢;split at h
 . rename_i h1;exact⟨h1,h,by rw[Ae h1]⟩
 rename_i h1;exact absurd h h1
def gz{l:B6}{n:Int}(h0:0<=n)(h1:n<=3000)(h:(Lg l n).1=true):l.length<=20/\0<=(Lg l n).2/\(Lg l n).2<=n:=by
 unfold Lg at h ⊢;split at h
 . rename_i h2;rw[Ae h2];simp only[Mn]at h ⊢
   have:=Z4 Jz (fun _=>0) l (fun x hx n h0 h1 hh=>by
    have:=gy x n h0 h1 (by simpa[Jz]using hh)
    simp only[Jz]; omega) n h0 h1 h
   rw[Afx]at this;exact⟨h2,this.1,Aa⟩
 cases h
def Abt{l:Ax}{n:Int}(h0:0<=n)(h1:n<=3000)(h:(Qx l n).1=true):l.length<=20/\0<=(Qx l n).2/\(Qx l n).2+Bd l<=n:=by
 unfold Qx at h ⊢;split at h
 . rename_i h2;rw[Ae h2];simp only[Mn]at h ⊢
   have:=Z4 (Jy 0) (fun c=>(Al c:Int)) l (fun x hx n h0 h1 hh=>by
    have:=gq x n _ h0 h1 (by simpa[Jy]using hh)
    simp only[Jy]; omega) n h0 h1 h
   rw[<- Aru]at this;exact⟨h2,this⟩
 cases h
def Bsn(l:Na):Hi l=(l.map wT).sum:=by
 induction l with
 |nil=>rfl
 |cons t l ih=>rw[Hi,F8,z8,ih]
def Bqk{l:Na}{b:Nat}(h:∀x∈l,tD x<=b):So l<=b:=by
 induction l with
 |nil=>simp[So]
 |cons y ys ih=>
  rw[So];have h1:=h y Ab;have h2:=ih (fun x hx=>h x (by simp[hx]));omega
def tg:∀(t:Te) (n:Int) (d:Nat),0<=n->n<=3000->(ft t n d).1=true->0<=(ft t n d).2/\(ft t n d).2+wT t<=n/\tD t+d<=61
 | .mk o nn s con tto k ns l,n,d,h0,h1,h=>by
   rw[Atv,wm1 h0 h1]at h ⊢;split at h
   . cases h
   rename_i h2;have h2':¬n-1<0:=fun h=>h2 (.inl h);have hd:¬60<(d:Int):=fun h=>h2 (.inr (.inl h));rw[Ac h2];obtain⟨a1,h,e1⟩:=Le h;obtain⟨a2,h,e2⟩:=Le h;obtain⟨a3,h,e3⟩:=Le h;rw[e1,e2,e3];simp only[Te.con,Te.to,Te.k,Te.l]at *;obtain⟨g1,g2⟩:=gq con (n-1) 0 Aa Aa a1;obtain⟨g3,g4⟩:=gq tto _ 0 g1 Aa a2;obtain⟨g5,g6⟩:=gy k _ g3 Aa a3;simp only[Mn]at h;rw[show IntKind.i64.wrap ((d:Int)+1)=((d+1:Nat):Int) by rw[Au Aa Aa]; simp]at h ⊢
   have hl:=Z4 (P2 ((d+1:Nat):Int)) wT l (fun x hx n h0 h1 hh=>by
    have:=tg x n (d+1) h0 h1 (by simpa[P2]using hh);have hp:=Wg x
    simp only[P2]; omega) _ g5 Aa h
   have hm:=Aat (P2 ((d+1:Nat):Int)) (fun x=>tD x+(d+1)<=61) l (fun x hx n h0 h1 hh=>by
    have:=tg x n (d+1) h0 h1 (by simpa[P2]using hh);have hp:=Wg x
    simp only[P2]; omega) _ g5 Aa h
   refine⟨hl.1,?_,?_⟩
   . have h5:=hl.2;rw[<- Bsn]at h5;rw[wT]
     have hn:Lt (.mk o nn s con tto k ns l)<=1+Al con+Al tto:=by
      unfold Lt;simp only[Te.op,Te.con,Te.to];by_cases q1:Dj o=true<;>by_cases q2:o=8<;>simp only[q1,q2,Bp,Bq,Dp]<;>omega
     omega
   rw[tD];have:=Bqk (l:=l) (b:=60-d) (fun x hx=>by have:=hm x hx;omega);omega
def A9k{s:Sm}{n d:Int}(h0:0<=n)(h1:n<=3000)(h:(fs s n d).1=true):s.more.length<=20:=by
 rw[Ab4,wm1 h0 h1]at h;split at h
 . cases h
 rename_i h2;have h2':¬n-1<0:=fun h=>h2 (.inl h);obtain⟨a1,h,_⟩:=Le h;obtain⟨a2,h,_⟩:=Le h;obtain⟨a3,h,_⟩:=Le h;obtain⟨a4,h,_⟩:=Le h;obtain⟨g1,g2⟩:=gq s.con (n-1) 0 Aa Aa a1;obtain⟨g3,g4⟩:=gy s.k _ g1 Aa a2;obtain⟨_,g5,g6⟩:=gz g3 Aa a3;exact(gz g5 Aa a4).1
def Atu:∀(s:Sm) (n d:Int),0<=n->n<=3000->(fs s n d).1=true->0<=(fs s n d).2/\(fs s n d).2<=n
 | .mk o nn t con k ks more ns l,n,d,h0,h1,h=>by
   rw[Ab4,wm1 h0 h1]at h ⊢;split at h
   . cases h
   rename_i h2;have h2':¬n-1<0:=fun h=>h2 (.inl h);rw[Ac h2];obtain⟨a1,h,e1⟩:=Le h;obtain⟨a2,h,e2⟩:=Le h;obtain⟨a3,h,e3⟩:=Le h;obtain⟨a4,h,e4⟩:=Le h;rw[e1,e2,e3,e4];simp only[Sm.con,Sm.k,Sm.ks,Sm.more,Sm.l]at *;obtain⟨g1,g2⟩:=gq con (n-1) 0 Aa Aa a1;obtain⟨g3,g4⟩:=gy k _ g1 Aa a2;obtain⟨_,g5,g6⟩:=gz g3 Aa a3;obtain⟨_,g7,g8⟩:=gz g5 Aa a4;simp only[Mn]at h
   have:=Z4 (S3 (IntKind.i64.wrap (d+1))) (fun _=>0) l (fun x hx n h0 h1 hh=>by
    have:=Atu x n _ h0 h1 (by simpa[S3]using hh)
    simp only[S3]; omega) _ g7 Aa h
   rw[Afx]at this;exact⟨this.1,Aa⟩
def As7{n:Int}(h0:0<=n)(h1:n<=3000)(h:(R1 e n).1=true):0<=(R1 e n).2/\(R1 e n).2<=n:=by
 unfold R1 at h ⊢;obtain⟨a1,h,e1⟩:=Le h;obtain⟨a2,h,e2⟩:=Le h;obtain⟨a3,h,e3⟩:=Le h;rw[e1,e2,e3];obtain⟨g1,g2,g3⟩:=gz h0 h1 a1;obtain⟨g4,g5,g6⟩:=Abt g2 Aa a2;obtain⟨g7,g8⟩:=Atu e.s _ 0 g5 Aa a3;obtain⟨g9,g10,_⟩:=tg e.t _ 0 g7 Aa h;have:=Wg e.t;exact⟨g9,by simp only[Int.natCast_zero]at *; omega⟩
def A84{n:Int}(h0:0<=n)(h1:n<=3000)(h:(R1 e n).1=true):e.ks.length<=20/\e.s.more.length<=20/\e.w.length<=20:=by
 unfold R1 at h;obtain⟨a1,h,_⟩:=Le h;obtain⟨a2,h,_⟩:=Le h;obtain⟨a3,h,_⟩:=Le h;obtain⟨g1,g2,g3⟩:=gz h0 h1 a1;obtain⟨g4,g5,g6⟩:=Abt g2 Aa a2;exact⟨g1,A9k g5 Aa a3,g4⟩
def Bsu:(Lg ([]:B6) 3000)=(true,3000):=Bc
def Ago:0<=(fs Dl 3000 0).2/\(fs Dl 3000 0).2<=3000:=Di
def A7k{l:Ax}{x:Cn}(h:x∈l):Al x<=Bd l:=by
 induction l with
 |nil=>cases h
 |cons y l ih=>
  rw[Bd];rcases List.mem_cons.1 h with rfl|h
  . omega
  have:=ih h;omega
def A85{f a:El}{l:Ax}{c:Te}(h:mt [] Dl l c [f,a]=true):Few f a l c/\f.w.length<=20/\a.w.length<=20/\(∀ x∈l,Al x<=3000):=by
 unfold mt at h;rw[Bsu]at h;obtain⟨-,h,_⟩:=Le h;simp only at h;obtain⟨-,h,_⟩:=Le h;obtain⟨a1,h,_⟩:=Le h;obtain⟨a2,h,_⟩:=Le h;obtain⟨g1,g2,g3⟩:=Abt Ago.1 Ago.2 a1;have z2:=Ago.2;obtain⟨g4,g5,g6⟩:=tg c _ 0 g2 Aa a2;have hwp:=Wg c;simp only[Mn]at h
 have hm:=Aat Ub (fun e=>e.ks.length<=20/\e.s.more.length<=20/\e.w.length<=20) [f,a] (fun e _ n h0 h1 hh=>by
  have hh:(R1 e n).1=true:=by simpa[Ub]using hh
  refine⟨?_,?_,A84 h0 h1 hh⟩
  . exact(As7 h0 h1 hh).1
  exact(As7 h0 h1 hh).2) _ g4 Aa h
 have hf:=hm f Ab;have ha:=hm a Ab;exact⟨⟨Aa,Aa,Aa,Aa⟩,hf.2.2,ha.2.2,fun x hx=>by have:=A7k hx;omega⟩
section
attribute [-simp] Int.not_lt Int.not_le
attribute [local simp] Cb Cq
mutual
def Aa8:∀(s:Sm) (left d:Int),Dd s->0<=left->left<=20000->cS s left d<=left/\-2000000000000<=cS s left d
 | .mk o n s c k ks more names l,left,d,hc,h0,h1=>by
   rw[Ju]at hc;rw[cS];split
   . omega
   rename_i h2;have h3:¬left<1:=fun h=>h2 (.inl h);have hz:=hc.1;simp only[Sm.con,Sm.l]at hc hz;by_cases ho:Dr o=true
   . rw[Ae ho];have:=Aa9 l (left-1-Al c) d hc.2 Aa Aa;omega
   rw[Ac ho];have:=Aa9 l (left-1-0) d hc.2 Aa Aa;omega
def Aa9:∀(l:List Sm) (left d:Int),(∀ x∈l,Dd x)->-1000000000001<=left->left<=20000->J6 l left d<=left/\-2000000000000<=J6 l left d
 | [],left,d,_,h0,h1=>by rw[J6]; omega
 |x::xs,left,d,hc,h0,h1=>by
  rw[J6];split
  . rename_i h2;have hx:=Aa8 x left (d-1) (hc x Ab) h2 h1;by_cases h3:0<=cS x left (d-1)
    . have:=Aa9 xs (cS x left (d-1)) d (fun y hy=>hc y (by simp[hy])) Aa Aa;omega
    rw[Aba Aa]; omega
  omega
end
def Ayf(s:Sm)(hc:Dd s):Hc 57 [An s] (.int .i64 (20000-cS s 20000 400)):=by
 have h:=Aen s 20000 400 hc Aa Aa Aa Aa;have hb:=Aa8 s 20000 400 hc Aa Aa;generalize cS s 20000 400=z at h hb ⊢;refine Hg Bhd fun Q hQ=>?_;simp[An];refine Ca h ?_;simp[Au (n:=20000-z) Aa Aa];exact hQ
def Bst:cS Dl 20000 400= -1:=Di
def Ayn(e:El)(hc:Dd e.s)(hw:∀x∈e.w,Al x<=1000000000000)(hl:e.w.length<=1000):∃n:Int,Hc 61 [As e] (.int .i64 n)/\0<=n/\n<=2000000000000000:=by
 obtain⟨z,hz,z0,z1⟩:=Ax4 e.t;have hs:=Ayf e.s hc;have hb:=Aa8 e.s 20000 400 hc Aa Aa;generalize cS e.s 20000 400=y at hs hb
 have uk:∀k,k<=e.w.length->(Bd (e.w.take k):Int)<=1000000000000*k:=by
  intro k
  induction k with
  |zero=>intro _;simp[Bd]
  |succ k ih=>
   intro hk;have h1:=me e.w k Aa;have h2:=hw e.w[k] (Cy Aa);have h3:=ih Aa;omega
 refine⟨z+(20000-y)+Bd e.w,?_,Aa,by have:=uk e.w.length (Bm _); rw[List.take_length]at this;omega⟩;refine Hg Bhq fun Q hQ=>?_;simp[As,A7 e];refine Wd ?_;simp;refine Da hz ?_;simp;refine Da hs ?_;simp[Au (n:=z+(20000-y)) Aa Aa];refine WL [] (fun n f h G=>∃k:Nat,k+n=e.w.length/\f 4= .int .i64 k/\f 3= .int .i64 (z+(20000-y)+Bd (e.w.take k))) (e.w.length) Ab ⟨0,Ab,rfl,by simp[Bd]⟩ ?_;rintro n f h G ⟨k,hk,h4,h3⟩ Q2 Aj;simp[h4,h3];by_cases Af:k<e.w.length
 . have Cc:(k:Int)<(e.w.length:Int):=by omega
   have h0:(0:Int)<=(k:Int):=Aa;have h1:=me e.w k Af;have h2:=uk (k+1) Aa;have h5:=uk k Aa;have hq:=dg e.w[k] (hw _ (Cy Af));simp[Af,h0];refine Ca hq ?_;simp[Au (n:=(k:Int)+1) Aa Aa,Au (n:=z+(20000-y)+(Bd (e.w.take k):Int)+Al e.w[k]) Aa Aa];refine Aj (Ln h ?_);exact⟨k+1,Aa,Ab,by simp[h1]; omega⟩
 have Cc:¬(k:Int)<(e.w.length:Int):=by omega
 have Dk:e.w.take k=e.w:=Gj Aa;simp[Af,Dk];refine Aj (Lx ?_);simp;exact hQ
def mr(rs:List Gp)(res:AV)(H':List HB)(x:AX)(t:List AV)(H2:List HB):Prop:=
 (x= .normal\/x= .ret)/\I2 t H2 rs=some res/\(∃ L,H2=H'++L)/\res.inScope H'.length=true/\Be H'.length H'=true
def C7.ofT{P:Program}{f:FuncId}{ac:AC}{n:Nat}{rs:List Gp}(hf:Nk P f ac n rs){args:Ao}{H H':Ai}{res:AV}(hl:H.length<=H'.length)(h:A9 P ac (start args n) H (mr rs res H')):C7 P f args H res H':=by
 refine⟨hf.en,fun F g w vs hG hs hr=>?_⟩;obtain⟨fn,c,h1,h2,h3,h4,h5⟩:=hf.fn;refine calls_of_wp h1 h2 ?_;have hlen:=H5 hr
 have Ur:Tm F g w (start args n) {tmps:=vs.toArray++Array.replicate (fn.ntmps-vs.toArray.size) undef,defers:=[]}:=by
  show RL F g w _ _;simp only[start,Wi,Zr,Tu,h4,hlen];exact Ld hr (Wr Hk _)
 refine wp_mono (h.det c h3 F g w _ ⟨hs,Ur,rfl,hG⟩) ?_;rintro e a' w' ⟨x,t',H2,F',g',rfl,⟨hx,hv,⟨L,rfl⟩,A8,nl⟩,Cv,Xo⟩;obtain⟨u,hu,Uq⟩:=ko Cv h5 hv;obtain⟨g2,e1,e2,e3⟩:=St.forget Cv.1 Xo hl nl hs.beyond;have Hr:=Mo e1 res u A8 Uq;rcases hx with rfl|rfl
 . exact⟨Cv.2.2.1,u,hu,u,F',g2,rfl,Hr,e2,e3⟩
 exact⟨Cv.2.2.1,u,hu,u,F',g2,rfl,Hr,e2,e3⟩
def C7.goT{P:Program}(hm:P.follows .mixedOrders=true){f:FuncId}{ac:AC}{n:Nat}{rs:List Gp}(hf:Nk P f ac n rs){args:Ao}{H H':Ai}{res:AV}(hl:H.length<=H'.length)
 (h:Bl args->∀Q:Co,(∀ x t H,mr rs res H' x t H->Q x t H)->WP P ac [] Q (start args n) H):C7 P f args H res H':=
 C7.fits hf.en fun Am=>C7.ofT hf hl (A9.run hm (h Am))
def A3c(c:Cn)(l:Ax)(H:Ai)(hH:∀n,H.length<=n->Be n H=true):HP 59 [.sl .none ((c::l).map Ag)] H (.sl (.own H.length) ((c::l).map Ag)) (H++[.tok (l.length+1) 6 28]):=by
 refine C7.goT mixed Ad9 Ab fun Am Q hQ=>?_;have B5:l.length+1<=A1:=by simpa[Bl,AV.fits]using Am.1.1
 have E7:=hH (H.length+1) Aa;clear Am;simp[Lp,Ey,B5,D3,Id];refine hQ _ _ _ ?_;simp[mr,I2,Ic,Js,AV.inScope,Nh,E7,Be]
def A3a(H:Ai)(hH:∀n,H.length<=n->Be n H=true):HP 59 [.sl .nilT []] H (.sl .nilT []) H:=by
 refine C7.goT mixed Ad9 Ab fun Am Q hQ=>?_;have E7:=hH H.length Aa;clear Am;simp[Lp];refine hQ _ _ _ ?_;simp[mr,I2,Ic,Js,AV.inScope,D9,E7]
def A3b(H:Ai)(hH:∀n,H.length<=n->Be n H=true):HP 59 [.sl .nn []] H (.sl .tight []) H:=by
 refine C7.goT mixed Ad9 Ab fun Am Q hQ=>?_;have E7:=hH H.length Aa;clear Am;simp[Lp,Ey,D3,Id,A1];refine hQ _ _ _ ?_;simp[mr,I2,Ic,Js,AV.inScope,D9,E7]
def Pf(base:Nat)(G:List HB)(tok:Dh)(n k:Nat):Prop:=tok= .tight\/tok= .nilT\/∃j e,tok= .own (base+j)/\G[j]? =some (.tok n k e)
def oa{base:Nat}{G L:Ai}{tok:Dh}{n k:Nat}(h:Pf base G tok n k):Pf base (G++L) tok n k:=by
 rcases h with h|h|⟨j,e,h1,h2⟩
 . exact .inl h
 . exact .inr (.inl h)
 exact .inr (.inr ⟨j,e,h1,by rw[D5 (List.getElem?_eq_some_iff.1 h2).1]; exact h2⟩)
def A4d{e:TypeId}{A G:Ai}{tok:Dh}{els ys:List Ao}{k:Nat}(h:Pf A.length G tok els.length k)(hl:els.length+ys.length<=A1)(hk:D3 k els=true)(hk2:D3 k ys=true):
 ∃tok' G',Ey k e tok els ys (A++G)=some (.sl tok' (els++ys),A++G')/\Pf A.length G' tok' (els.length+ys.length) k/\∀tok2 n k2,k2≠k->Pf A.length G tok2 n k2->Pf A.length G' tok2 n k2:=by
 have new:(tok= .tight\/tok= .nilT)->Id k e tok els (A++G) ys=Ey k e tok els ys (A++G):=fun h=>by
  rcases h with rfl|rfl<;>simp[Ey,hl,hk,hk2]
 rcases h with h|h|⟨j,e',rfl,hj⟩
 . rw[<- new (.inl h)]
   cases ys with
   |nil=>exact⟨tok,G,by simp[Id],by simpa[Pf]using Or.inl h,fun _ _ _ _ h=>h⟩
   |cons y ys=>exact⟨.own (A++G).length,G++[.tok (els.length+(ys.length+1)) k e],by simp[Id],.inr (.inr ⟨G.length,e,Ab,Ab⟩),fun _ _ _ _ h=>oa h⟩
 . rw[<- new (.inr h)]
   cases ys with
   |nil=>exact⟨tok,G,by simp[Id],by simpa[Pf]using Or.inr (.inl h),fun _ _ _ _ h=>h⟩
   |cons y ys=>exact⟨.own (A++G).length,G++[.tok (els.length+(ys.length+1)) k e],by simp[Id],.inr (.inr ⟨G.length,e,Ab,Ab⟩),fun _ _ _ _ h=>oa h⟩
 have Ge:=(List.getElem?_eq_some_iff.1 hj).1;refine⟨.own (A.length+j),G.set j (.tok (els.length+ys.length) k (if e'=e then e else 0)),?_,.inr (.inr ⟨j,(if e'=e then e else 0),rfl,?_⟩),?_⟩
 . have hg:(A++G)[A.length+j]? =some (.tok els.length k e'):=by
    rw[Hj Aa]; simpa using hj
   have Vw:(A++G).set (A.length+j) (.tok (els.length+ys.length) k (if e'=e then e else 0))=A++G.set j (.tok (els.length+ys.length) k (if e'=e then e else 0)):=by
    rw[qg _ _ Aa]; simp
   simp only[Ey,hl,hk,hk2,Mq,Bp,hg,Vw]
 . simp[Ks Ge]
 rintro tok2 n k2 Bg (h|h|⟨j2,e2,h1,h2⟩)
 . exact .inl h
 . exact .inr (.inl h)
 have hj2:j≠j2:=fun q=>by
  subst q;rw[hj]at h2;injection h2 with h2;injection h2 with _ h2 _;exact Bg h2.symm
 exact .inr (.inr ⟨j2,e2,h1,by rw[Ia hj2]; exact h2⟩)
def Agz{e:TypeId}{P:Program}{V:Nat->Bool}{nq:Ck}{H0 H:Ai}{n:Nat}(A G:Ai)(hH:H=A++G){tok:Dh}{els ys:List Ao}{k:Nat}{dst:Option Nat}{l:B8}{kf:I7}{Q:Co}{t:Ao}(h:Pf A.length G tok els.length k)(hl:els.length+ys.length<=A1)(hk:D3 k els=true)(hk2:D3 k ys=true)
 (hn:∀tok' G',Pf A.length G' tok' (els.length+ys.length) k->(∀ tok2 n k2,k2≠k->Pf A.length G tok2 n k2->Pf A.length G' tok2 n k2)->DR P V nq H0 (n+1) l kf Q (Cd t dst (.sl tok' (els++ys))) (A++G')):Zu P V nq H0 n (Ey k e tok els ys H) dst l kf Q t:=by
 subst hH;obtain⟨tok',G',e1,e2,e3⟩:=A4d (e:=e) h hl hk hk2;rw[e1];exact hn tok' G' e2 e3
def At5{k:Nat}{a b:List Ao}(h:D3 k a=true)(h':D3 k b=true):D3 k (a++b)=true:=by
 cases a with
 |nil=>exact h'
 |cons x a=>exact h
def Afu(f a:El)(l:Ax)(c:Te)(L L2:AV)(tk:Dh)(G0:Ai)(En:HP 59 [L] [.var (.sl .none []::Bx Dl),.var (Bi c)] (.sl tk (l.map Ag)) ([.var (.sl .none []::Bx Dl),.var (Bi c)]++G0))
 (Bt:Pf 2 G0 tk (l.map Ag).length 6) (hLe:∃t,L= .sl t (l.map Ag)) (Kc:∀x∈l,Al x<=3000) (Dw:l.length<=100)
 (n1 n2:Int) (De:Hc 61 [As f] (.int .i64 n1)) (hn2:Hc 61 [As a] (.int .i64 n2)) (b1:0<=n1/\n1<=2000000000000000) (b2:0<=n2/\n2<=2000000000000000) (w1:f.w.length<=20) (w2:a.w.length<=20):
 Hc 9 [C8 [] Dl,L,Ah c,.sl .none ([f,a].map Es)] (.bool false):=by
 obtain⟨t0,rfl⟩:=hLe;have hz:=Ayf Dl (by rw[Ju]; exact⟨by show Al A3<=_;decide,fun x hx=>by cases hx⟩);rw[Bst]at hz;obtain⟨z2,hz2,z20,z21⟩:=Ax4 c;refine Hg Bfb fun Q hQ=>?_;simp[-Az,C8,Ah,Aq c,Kl];rw[Az];simp[-Az];rw[Az];simp[-Az];refine Ca hz ?_ (he:=by simp[An,Kl]);simp[-Az];refine Gc (fun fs=>∃z:Int,fs 9= .int .i64 z/\20001<=z/\z<=2000000) (fun Q' hn hr=>?_) (fun fs hI=>?_)
 . clear hQ;by_cases hc:c.op=0
   . rw[hc]at hn;simp[hc];refine hn _ Ab ?_;exact⟨20001,Ab,Aa,Aa⟩
   simp[hc];refine Ca hz2 ?_;simp[Au (n:=20001+z2) Aa Aa];refine hn _ Ab ?_;exact⟨20001+z2,Ab,Aa,Aa⟩
 obtain⟨z,hz9,jk,hz1⟩:=hI;simp[-Az,hz9];rw[Az];refine Ty (fun _=>true) [4] Bc ?_;simp;refine Ql (first:=[]) (cap:=[]) (by simpa[Kl,Aq c]using En) (fun b cs _ hb=>E4 hb) ?_;simp;refine Ip (A9.loopG (A:=[_,_]) (G0:=G0) [] (fun n f h G=>∃(k:Nat) (z:Int),k+n=l.length/\f 33= .int .i64 k/\f 9= .int .i64 z/\20001<=z/\z<=2000000+3000*k/\Pf 2 G tk (l.map Ag).length 6) l.length Ab ⟨0,z,Ab,rfl,Ab,jk,Aa,Bt⟩ ?_);clear Bt En hz9 jk hz1;rintro n fs2 h G ⟨k,z,hk,h33,h9,jk,hz1,Bt⟩;refine Ru fun Q2 Aj=>?_;simp[h33,h9];by_cases Af:k<l.length
 . have Cc:(k:Int)<(l.length:Int):=by omega
   have h0:(0:Int)<=(k:Int):=Aa;have hb:=Kc l[k] (Cy Af);have hq:=dg l[k] Aa;simp[Af,h0,Ap l[k]];refine Ca hq ?_;simp[Au (n:=(k:Int)+1) Aa Aa,Au (n:=z+(Al l[k]:Int)) Aa Aa];refine Aj (Fo (n-1) h (G':=G++[_]) (by first |rfl|simp) Aa Ab ?_);exact⟨k+1,z+Al l[k],Aa,Ab,Ab,Aa,Aa,oa Bt⟩
 have Cc:¬(k:Int)<(l.length:Int):=by omega
 simp[Af];refine Aj (Lx ?_);clear Aj h33 h9;simp;refine Ip (A9.loopG (A:=[_,_]) (G0:=G) [] (fun n f h G=>∃(k:Nat) (z:Int) (t1 t2:Dh) (r1 r2:List Ao),k+n=2/\f 44= .int .i64 k/\f 9= .int .i64 z/\20001<=z/\z<=3000000+2000000000000000*k/\f 10= .sl t1 r1/\f 11= .sl t2 r2/\D3 14 r1=true/\D3 6 r2=true/\r1.length=k+1/\r2.length<=100+20*k/\Pf 2 G t1 r1.length 14/\Pf 2 G t2 r2.length 6) 2 Ab ⟨0,z,.tight,tk,_,l.map Ag,Ab,rfl,Ab,jk,Aa,by simp;rfl,Ab,Bc,Ea _ _ Iq,Bc,by simp;omega,.inl rfl,Bt⟩ ?_);clear Bt jk hz1 hk Af Cc;rintro n fs3 h G ⟨k,z,t1,t2,r1,r2,hk,h44,h9,jk,hz1,Ig,Fw,hk1,hk2,S6,S7,Iv,P9⟩;refine Ru fun Q2 Aj=>?_;simp[h44,h9,Ig,Fw];obtain⟨E,hE⟩:∃E:List El,E=[f,a]:=⟨_,rfl⟩;by_cases Af:k<2
 . have Cc:(k:Int)<2:=by omega
   have h0:(0:Int)<=(k:Int):=Aa
   obtain⟨x,nx,Up,Q7,ir,Mc,Us⟩:∃(x:El) (nx:Int),(∀ h,[Es f,Es a][k]'h=Es x)/\Hc 61 [As x] (.int .i64 nx)/\0<=nx/\nx<=2000000000000000/\x.w.length<=20:=by
    rcases(by omega:k=0\/k=1)with rfl|rfl
    . exact⟨f,n1,fun _=>rfl,De,b1.1,b1.2,w1⟩
    exact⟨a,n2,fun _=>rfl,hn2,b2.1,b2.2,w2⟩
   simp[Af,Cc,h0,Up,A7 x];refine Ca Q7 ?_;simp[Au (n:=z+nx) Aa Aa];refine Wd ?_;simp;refine Agz [_,_] (G++[_]) rfl (oa Iv) (by simp[A1]; omega) hk1 Bc fun t1' G1 o1 keep1=>?_;simp;refine Agz [_,_] G1 rfl (keep1 t2 r2.length 6 Di (oa P9)) (by simp[A1]; omega) hk2 (Ea _ _ Iq) fun t2' G2 o2 Ada=>?_;simp[Au (n:=(k:Int)+1) Aa Aa];refine Aj (Fo (n-1) h (G':=G2) rfl Aa Ab ?_);refine⟨k+1,z+nx,t1',t2',_,_,Aa,Ab,Ab,Aa,Aa,by simp;rfl,by simp;rfl,At5 hk1 Bc,At5 hk2 (Ea _ _ Iq),by simp;omega,by simp;omega,?_,?_⟩
   . exact Ada t1' _ 14 Di (by simpa using o1)
   simpa using o2
 have Cc:¬(k:Int)<2:=by omega
 simp[Cc];refine Aj (Lx ?_);clear Aj h44 h9 Ig Fw Iv P9;have h300:¬z<=300:=Aa;simp[h300];exact hQ
end
section
open Go.RowKit
attribute [-simp] Int.not_lt Int.not_le
attribute [local simp] Cb Cq
def Bp1(f a:El)(l:Ax)(c:Te)(M3:Kv f)(Nq:Kv a)(Kc:∀x∈l,Al x<=3000)(Dw:l.length<=100)(w1:f.w.length<=20)(w2:a.w.length<=20):
 Hc 9 [C8 [] Dl,.sl .none (l.map Ag),Ah c,.sl .none ([f,a].map Es)] (.bool false):=by
 obtain⟨n1,De,b1⟩:=Ayn f M3.s M3.w Aa;obtain⟨n2,hn2,b2⟩:=Ayn a Nq.s Nq.w Aa;have hH:∀n,2<=n->Be n [.var (.sl .none []::Bx Dl),.var (Bi c)]=true:=fun n _=>by simp[Be,A0,AV.inScope]
 cases l with
 |nil=>
  refine C7.nilOr (A:=[C8 [] Dl]) (B:=[Ah c,.sl .none ([f,a].map Es)]) ?_ ?_
  . exact Afu f a [] c _ .nilp .nilT [] (A3a _ hH) (.inr (.inl rfl)) ⟨_,rfl⟩ Kc Dw n1 n2 De hn2 b1 b2 w1 w2
  exact Afu f a [] c _ .nilp .tight [] (A3b _ hH) (.inl rfl) ⟨_,rfl⟩ Kc Dw n1 n2 De hn2 b1 b2 w1 w2
 |cons x l=>exact Afu f a (x::l) c _ .nilp (.own 2) [.tok (l.length+1) 6 28] (A3c x l _ hH) (.inr (.inr ⟨0,28,rfl,Ab⟩)) ⟨_,rfl⟩ Kc Dw n1 n2 De hn2 b1 b2 w1 w2
def l0(k:B6)(w:Ax)(p:Bool)(s:Sm)(t t':Te):Hc 56 [As ⟨k,w,p,s,t⟩,As ⟨k,w,p,s,t'⟩] (.bool true):=by
 refine Hg Bhp fun Q hQ=>?_;simp[As,A7];refine Ca (Ade k) ?_;simp;refine Ca (A7p w) ?_;simp;refine Ca (A03 s) ?_;simp;exact hQ
def Bn3(want:El)(b:Bool):Hc 8 [As D7,.int .i64 6,As want,.int .i64 6,.bool b] (.bool true):=by
 have h:Hc 56 [As D7,As D7] (.bool true):=l0 [] [] false Dl Cj Cj;refine Hg j4 fun Q hQ=>?_;simp[As,Hm,Cx,A7 want];refine Ca h ?_ (he:=by simp[As,Hm,Cx]);simp;exact hQ
def Bn2(want:El)(b:Bool):Hc 8 [As D7,.int .i64 27,As want,.int .i64 6,.bool b] (.bool true):=by
 have h:Hc 56 [As D7,As D7] (.bool true):=l0 [] [] false Dl Cj Cj;refine Hg j4 fun Q hQ=>?_;simp[As,Hm,Cx,A7 want];refine Ca h ?_ (he:=by simp[As,Hm,Cx]);simp;exact hQ
def Bn4(x want:El)(b:Bool)(hc:Dd x.s)(hx:I9 x=true):Hc 8 [As x,.int .i64 0,As want,.int .i64 6,.bool b] (.bool true):=by
 have h:=kh x hc;rw[hx]at h;refine Hg j4 fun Q hQ=>?_;simp[As,A7 x,A7 want];refine Ca h ?_;simp;exact hQ
def Afd(want:El)(b:Bool)(n:Int)(h0:n≠0)(h6:n≠6):Hc 8 [As D7,.int .i64 n,As want,.int .i64 n,.bool b] (.bool true):=by
 have h:Hc 56 [As D7,As D7] (.bool true):=l0 [] [] false Dl Cj Cj;refine Hg j4 fun Q hQ=>?_;simp[As,Hm,Cx,A7 want,h0,h6];refine Ca h ?_ (he:=by simp[As,Hm,Cx]);simp;exact hQ
def Bn7(want:El):Hc 8 [As D7,.int .i64 6,As want,.int .i64 0,.bool false] (.bool true):=by
 have h:Hc 56 [As D7,As D7] (.bool true):=l0 [] [] false Dl Cj Cj;refine Hg j4 fun Q hQ=>?_;simp[As,Hm,Cx,A7 want];refine Ca h ?_ (he:=by simp[As,Hm,Cx]);simp;exact hQ
def Bn6(k:B6)(w:Ax)(p:Bool)(s:Sm)(t t':Te)(b:Bool)(hc:Dd s)(hx:I9 ⟨k,w,p,s,t⟩=true):Hc 8 [As ⟨k,w,p,s,t⟩,.int .i64 0,As ⟨k,w,p,s,t'⟩,.int .i64 0,.bool b] (.bool true):=by
 have h:=kh ⟨k,w,p,s,t⟩ hc;rw[hx]at h;have h2:=l0 k w p s t t';refine Hg j4 fun Q hQ=>?_;simp[As,A7];refine Ca h ?_;simp;refine Ca h2 ?_;simp;exact hQ
def Azm{x:El}(h:I9 x=true):Dd x.s:=ib (X3 h).2.1
def At1{f a:El}{l:Ax}{c:Te}(hC:I3 f a l c=true)(h1:f.s.op=6)(hm:f.s.more.length<=1000)(hl:l.length<=1000){x y r:Sm}(hy:(rsh a.ks.length f.s 0).l=[x,y])(hn:NS (Th f.s.more.length l y) r)(hs:(E0 f.s a.ks.length 0).2=0):
 Iz (lY f a) f.s.more l=(r,0)\/(Iz (lY f a) f.s.more l).2=6:=by
 simp only[I3,Bb]at hC;obtain⟨c1,c2,c3,c4⟩:=hC;obtain⟨f1,f2,_⟩:=X3 c1;obtain⟨a1,a2,_⟩:=X3 c2;have e:=A0w f2 a1 hs;have g:=xe hs;have e2:lY f a=y:=by rw[lY,e,hy]; rfl
 have hw:=A2w g.1 (by rw[g.2]; exact h1) (by rw[e]; exact hy);rw[e,A0a]at hw;rw[e2];exact Bnk hw hm (fun x hx=>List.all_eq_true.1 c3 x hx) hl hn
def Bn5(f a:El)(l:Ax)(c:Te)(p q:El×Int)(hw:Few f a l c)(hL:Wl f a l c p)(hA:Tn f a l c q):Hc 8 [As p.1,.int .i64 p.2,As q.1,.int .i64 q.2,.bool false] (.bool true):=by
 have hfk:=hw.fk;have Ji:=hw.fl
 cases hL with
 |arg h=>
  cases hA with
  |arg _=>exact Afd _ _ 1 Di Di
  |typ h' _=>rw[h]at h';cases h'
  |len h' _ _=>rw[h]at h';cases h'
  |big h' _ _=>rw[h]at h';cases h'
  |good h'=>rw[h]at h';cases h'
 |typ h h1=>
  cases hA with
  |arg h'=>rw[h]at h';cases h'
  |typ _ _=>exact Afd _ _ 12 Di Di
  |len _ h2 _=>exact absurd h2 h1
  |big _ h2 _=>exact absurd h2 h1
  |good _ h2=>exact absurd h2 h1
 |len h h1 h2=>
  cases hA with
  |arg h'=>rw[h]at h';cases h'
  |typ _ h3=>exact absurd h1 h3
  |len _ _ _=>exact Afd _ _ 1 Di Di
  |big _ _ h3=>exact absurd h3 h2
  |good _ _ h3=>exact absurd h3 h2
 |err h h1 h2 E hE=>
  cases hA with
  |arg h'=>rw[h]at h';cases h'
  |typ _ h3=>exact absurd h1 h3
  |len _ _ h3=>exact absurd h2 h3
  |big _ _ _=>
   rcases hE with rfl|⟨rfl,_⟩
   . exact Bn3 _ _
   exact Bn2 _ _
  |good _ _ _ x y r t hy hf hn hr hk hp ho=>
   rcases hE with rfl|⟨rfl,hb⟩
   . exact Bn7 _
   exfalso;rcases hb with⟨b1,b2⟩|⟨b1,b2⟩
   . rcases At1 h h1 Aa Aa hy hn b1 with g|g
     . rw[g]at b2;cases b2
     rw[g]at b2;cases b2
   have hC:=h;simp only[I3,Bb]at hC;obtain⟨c1,c2,c3,c4⟩:=hC;obtain⟨f1,f2,f3,f4,f5,f6⟩:=X3 c1;obtain⟨a1,a2,a3,a4,a5,a6⟩:=X3 c2;have Xj:=b1;simp only[Lf,Bb,Aw]at Xj
   have hWv:∀x∈G5 f a,Ar x=true:=fun x hx=>by
    rcases List.mem_append.1 hx with h|h
    . exact f4 x h
    exact a4 x h
   have hWl:(G5 f a).length<=1000:=by rw[G5,Po,f5 Xj.1,a5 Xj.2.1]; omega
   rw[Arb hWv hWl l (fun x hx=>List.all_eq_true.1 c3 x hx) (hp b1)]at b2
   cases b2
 |good h h1 h2 r t hs hp ho=>
  cases hA with
  |arg h'=>rw[h]at h';cases h'
  |typ _ h3=>exact absurd h1 h3
  |len _ _ h3=>exact absurd h2 h3
  |big _ _ _=>exact Bn4 _ _ _ (Azm ho) ho
  |good _ _ _ x y r' t' hy hf hn hr hk hp' ho'=>
   rcases At1 h h1 Aa Aa hy hn hs with g|g
   . rw[hp]at g;obtain rfl:r=r':=A4 Prod.fst g;exact Bn6 _ _ _ _ _ _ _ (Azm ho) ho
   rw[hp]at g;cases g
def A4g(im:lh)(f a:El)(l:Ax)(c:Te)(Jh:Hc 5 [C8 [] Dl,.sl .none (l.map Ag),Ah c,.sl .none ([f,a].map Es)] (.bool false)):Hc 3 [As f,As a,.sl .none (l.map Ag),Ah c] (.bool true):=by
 refine Hg Awx fun Q hQ=>?_;simp[As,Ah,Aq c,A7 f,A7 a];refine Ca im ?_;simp;refine Ca Jh ?_ (he:=by simp[C8,Kl,Ah,Aq c,A7 f,A7 a]);simp;exact hQ
def A4f(im:lh)(f a:El)(l:Ax)(c:Te)(Jh:Hc 5 [C8 [] Dl,.sl .none (l.map Ag),Ah c,.sl .none ([f,a].map Es)] (.bool true))(x y:El)(e g:Int)
 (hli:Hc 6 [As f,As a,.sl .none (l.map Ag),Ah c] (Cr (x,e))) (bq:Hc 7 [As f,As a,.sl .none (l.map Ag),Ah c] (Cr (y,g)))
 (hsm:Hc 9 [C8 [] Dl,.sl .none (l.map Ag),Ah c,.sl .none ([f,a].map Es)] (.bool false))
 (hri:Hc 8 [As x,.int .i64 e,As y,.int .i64 g,.bool false] (.bool true)):Hc 3 [As f,As a,.sl .none (l.map Ag),Ah c] (.bool true):=by
 refine Hg Awx fun Q hQ=>?_;simp[As,Ah,Aq c,A7 f,A7 a];refine Ca im ?_;simp;refine Ca Jh ?_ (he:=by simp[C8,Kl,Ah,Aq c,A7 f,A7 a]);simp;refine Ca hli ?_;simp[Cr,As,A7 x];refine Ca bq ?_;simp[Cr,As,A7 y];refine Wd ?_;simp;refine Da hsm ?_ (he:=by simp[C8,Kl,Ah,Aq c,A7 f,A7 a]);simp;refine Da hri ?_;simp;exact hQ
def A3l(im:lh)(f a:El)(l:Ax)(c:Te)(M3:Kv f)(Nq:Kv a)(hl:∀x∈l,Al x<=1000000000000)(hc:Dg c):
 Hc 3 [As f,As a,.sl .none (l.map Ag),Ah c] (.bool true):=by
 have Jh:=A9a [] Dl l c [f,a];cases hb:mt [] Dl l c [f,a]
 . rw[hb]at Jh;exact A4g im f a l c Jh
 rw[hb]at Jh;obtain⟨hw,w1,w2,Kc⟩:=A85 hb;obtain⟨⟨x,e⟩,hli,hL⟩:=Bbd f a l c M3 Nq hl hc hw;obtain⟨⟨y,g⟩,bq,hA⟩:=Bml f a l c M3.s Nq.s (by have:=hw.fl;omega);exact A4f im f a l c Jh x y e g hli bq (Bp1 f a l c M3 Nq Kc hw.fl w1 w2) (Bn5 f a l c (x,e) (y,g) hw hL hA)
end
