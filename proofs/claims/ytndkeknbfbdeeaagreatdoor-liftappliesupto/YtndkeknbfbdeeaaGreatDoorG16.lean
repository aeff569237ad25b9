/- A part of the proof that LiftApplies answers true. -/
import Derived.Test.YtndkeknbfbdeeaaGreatDoorG13
set_option linter.all false
set_option maxHeartbeats 4000000
set_option maxRecDepth 100000
namespace Go.Proofs.YtndkeknbfbdeeaaGreatDoor
open Go
variable {Q:AX->Ao->Ai->Prop}
section
structure Gw {σ:Type} (S:σ->List HB) (m:Nat):Prop where
 len:∀s,(S s).length=m
 sc:∀s k,m<=k->Be k (S s)=true
section
variable {σ:Type} {S:σ->List HB} {m:Nat}
def Gw.at0(h:Gw S m)(s:σ)(L:Ai):(S s++L)[m]? =L[0]?:=by
 rw[<- h.len s]; exact Atz _ _
def Gw.get(h:Gw S m)(s:σ)(L:Ai)(j:Nat):(S s++L)[m+j]? =L[j]?:=by
 rw[<- h.len s]; exact At0 _ _ _
def Gw.set(h:Gw S m)(s:σ)(L:Ai)(j:Nat)(x:HB):(S s++L).set (m+j) x=S s++L.set j x:=by
 rw[<- h.len s]; exact Bo5 _ _ _ _
def Gw.low(h:Gw S m)(s:σ)(L:Ai){p:Nat}(hp:p<m):(S s++L)[p]? =(S s)[p]?:=D5 (by rw[h.len]; exact hp)
def Gw.setLow(h:Gw S m)(s:σ)(L:Ai){p:Nat}(hp:p<m)(x:HB):(S s++L).set p x=(S s).set p x++L:=by
 rw[List.set_append_left _ _ (by rw[h.len]; exact hp)]
def Gw.scA(h:Gw S m)(s:σ)(L:Ai){k:Nat}(hk:m<=k):Be k (S s++L)=Be k L:=by
 rw[Nh,h.sc s k hk]; rfl
def Gw.more(h:Gw S m)(L:Ai)(hs:∀k,m+L.length<=k->Be k L=true):Gw (fun s=>S s++L) (m+L.length) where
 len s:=by simp[h.len]
 sc s k hk:=by rw[h.scA s L Aa]; exact hs k hk
end
def qv{σ:Type}(S:σ->List HB)(t0:List AV)(ds:List Nat)(I:Nat->(Nat->AV)->σ->List HB->Prop)(n:Nat)(Q:AX->List AV->List HB->Prop):AX->List AV->List HB->Prop:=
 Zo (fun t' H'=>Jp t0 ds (Gv t')=t'/\∃m s' G',m<n/\H'=S s'++G'/\I m (Gv t') s' G') Q
variable [D6]
def A9.loopS{σ:Type}(S:σ->Ai){P:Program}{x:AC}{t0:Ao}{H0:Ai}(I:Nat->(Nat->AV)->σ->Ai->Prop)(n0:Nat)(s0:σ)(G0:Ai)(hH:H0=S s0++G0)
 (h0:I n0 (Gv t0) s0 G0) (hr:∀n f s G,I n f s G->A9 P x (Jp t0 x.dsts f) (S s++G) (qv S t0 x.dsts I n Q)):A9 P (.loop x) t0 H0 Q:=by
 refine A9.loop (fun n t H=>∃f s G,t=Jp t0 x.dsts f/\H=S s++G/\I n f s G) n0 ⟨Gv t0,s0,G0,(xp _ _).symm,hH,h0⟩ ?_;rintro n t H ⟨f,s,G,rfl,rfl,hI⟩;refine A9.mono (hr n f s G hI) ?_;intro e t' H' hq
 cases e with
 |normal=>
  obtain⟨e1,m,s',G',hm,e2,ap⟩:=hq
  exact⟨m,hm,Gv t',s',G',e1.symm,e2,ap⟩
 |exit _=>exact hq
 |ret=>exact hq
omit [D6] in
def Rb{σ:Type}{S:σ->Ai}{t0 t':Ao}{ds:Ck}{H':Ai}{I:Nat->(Nat->AV)->σ->Ai->Prop}{n:Nat}(m:Nat)(s':σ){G':Ai}(hH:H'=S s'++G')(hm:m<n)
 (ht:Jp t0 ds (Gv t')=t') (hI:I m (Gv t') s' G'):qv S t0 ds I n Q .normal t' H':=⟨ht,m,s',G',hm,hH,hI⟩
omit [D6] in
def Sk{σ:Type}{S:σ->Ai}{t0 t':Ao}{ds:Ck}{H':Ai}{I:Nat->(Nat->AV)->σ->Ai->Prop}{n i:Nat}(h:Q (.exit i) t' H'):qv S t0 ds I n Q (.exit i) t' H':=h
omit [D6] in
def nz{σ:Type}{S:σ->Ai}{t0 t':Ao}{ds:Ck}{H':Ai}{I:Nat->(Nat->AV)->σ->Ai->Prop}{n:Nat}(h:Q .ret t' H'):qv S t0 ds I n Q .ret t' H':=h
def Aan{P:Program}{a b:AC}{k:I7}{Q:Co}{t:Ao}{H:Ai}(I:(Nat->AV)->Ai->Prop)
 (h1:∀Q':Co,(∀ t' H',Jp t a.dsts (Gv t')=t'->I (Gv t') H'->Q' .normal t' H')->(∀ t' H',KR P k Q t' H'->Q' .ret t' H')->WP P a [] Q' t H)
 (h2:∀f H',I f H'->WP P b k Q (Jp t a.dsts f) H'):WP P (.seq a b) k Q t H:=by
 rw[Az]
 have h:=h1 (kq P (.code b::k) Q) (fun t' G e hI=>by
  have:=h2 _ G hI;rw[e]at this
  exact this) (fun t' H' h=>h)
 have e:kq P [] (kq P (.code b::k) Q)=kq P (.code b::k) Q:=by funext x t H;rfl
 unfold WP at h ⊢;rw[e]at h;exact h
def ly{ι:Type}{P:Program}{a b:AC}{k:I7}{Q:Co}{t:Ao}{H:Ai}(S:ι->Ai)(I:ι->(Nat->AV)->Prop)
 (h1:∀Q':Co,(∀ (i:ι) (t':Ao),Jp t a.dsts (Gv t')=t'->I i (Gv t')->Q' .normal t' (S i))->(∀ t' H',KR P k Q t' H'->Q' .ret t' H')->WP P a [] Q' t H)
 (h2:∀(i:ι) (f:Nat->AV),I i f->WP P b k Q (Jp t a.dsts f) (S i)):WP P (.seq a b) k Q t H:=by
 refine Aan (fun f H'=>∃i,H'=S i/\I i f) (fun Q' hn hr=>h1 Q' (fun i t' e h=>hn t' _ e ⟨i,rfl,h⟩) hr) ?_;rintro f H' ⟨i,rfl,h⟩;exact h2 i f h
structure C6 where
 a:AV
 b:AV
 c:AV
 d:AV
 e:AV
 f:AV
def C6.l(x:C6):List AV:=[x.a,x.b,x.c,x.d,x.e,x.f]
def C4{α σ:Type}(q:α->σ->Bool×σ):List α->σ->Bool×σ
 | [],s=>(false,s)
 |x::l,s=>if(q x s).1=true then(true,(q x s).2)else C4 q l (q x s).2
def D2{α σ:Type}(q:α->σ->Bool×σ):List α->Nat->σ->Int×σ
 | [],_,s=>(-1,s)
 |x::l,i,s=>if(q x s).1=true then((i:Int),(q x s).2)else D2 q l (i+1) (q x s).2
def jm{α σ:Type}(q:α->σ->Bool×σ):∀(l:List α) (i:Nat) (s:σ),decide (0<=(D2 q l i s).1)=(C4 q l s).1/\(D2 q l i s).2=(C4 q l s).2
 | [],i,s=>by simp[D2,C4]
 |x::l,i,s=>by
  have:=jm q l (i+1) (q x s).2;cases h:(q x s).1<;>simp[D2,C4,h,this]
end
def Bpq{σ:Type}{S:σ->Ai}{m:Nat}(hS:Gw S m)(l:B6)(q:Kd->σ->Bool×σ)(fn:Nat)(cap:Ao)(Dv:A0 m cap=true)(hp:∀x∈l,∀s,HP fn ([Ba x]++cap) (S s) (.bool (q x s).1) (S (q x s).2))(s0:σ):
 HP 143 [.sl .none (l.map Ak),.fn (.func fn) [] cap] (S s0) (.int .i64 (D2 q l 0 s0).1) (S (D2 q l 0 s0).2):=by
 refine Hf Axc (hl:=(by simp[hS.len])) fun Am Q hQ=>?_;have B5:l.length<=1073741824:=by simpa[Bl,AV.fits,A1]using Am.1.1
 clear Am;have A8:=fun s=>hS.sc s m (Bm _);simp;refine Ip (A9.loopS S (fun n f s G=>∃k:Nat,k+n=l.length/\f 8= .int .i64 k/\D2 q (l.drop k) k s=D2 q l 0 s0) l.length s0 [] Ab ⟨0,Ab,rfl,Ab⟩ ?_);rintro n f s G ⟨k,hk,h8,hs⟩;refine Ru fun Q2 Aj=>?_;simp[h8];by_cases Af:k<l.length
 . have hd:=Ct Af;simp[Af];refine N5 (first:=[]) (r:=.bool (q l[k] s).1) (H':=S (q l[k] s).2++G) (by simpa[Ba]using(hp l[k] (Cy _) s).suffix (by simp[hS.len]) (by simp[A0,hS.len,Dv]) (by rw[hS.len]; exact A8 s) G) ?_;simp;refine C3 (fun hb=>?_) (fun hb=>?_)
   . have e:D2 q l 0 s0=((k:Int),(q l[k] s).2):=by rw[<- hs,hd]; simp[D2,hb]
     simp;refine Aj (nz ?_);show KR _ _ Q _ _;simp;exact hQ (by simp[e,hS.len,A8])
   simp[Au (n:=(k:Int)+1) Aa Aa];refine Aj (Rb (n-1) (q l[k] s).2 (G':=G) rfl Aa Ab ?_);refine⟨k+1,Aa,Ab,?_⟩;rw[<- hs,hd]; simp[D2,hb]
 have e:D2 q l 0 s0=(-1,s):=by rw[<- hs,Cm Aa]; simp[D2]
 simp[Af];refine Aj (Sk ?_);show KE _ 0 _ Q _ _;simp;exact hQ (by simp[e,hS.len,A8])
def A00{σ:Type}{S:σ->Ai}{m:Nat}(hS:Gw S m)(l:B6)(q:Kd->σ->Bool×σ)(fn:Nat)(cap:Ao)(Dv:A0 m cap=true)(hp:∀x∈l,∀s,HP fn ([Ba x]++cap) (S s) (.bool (q x s).1) (S (q x s).2))(s0:σ):
 HP 76 [.sl .none (l.map Ak),.fn (.func fn) [] cap] (S s0) (.bool (C4 q l s0).1) (S (C4 q l s0).2):=by
 have hi:=Bpq hS l q fn cap Dv hp s0;obtain⟨e1,e2⟩:=jm q l 0 s0;rw[e2]at hi;rw[<- e1];generalize (D2 q l 0 s0).1=r at hi;generalize (C4 q l s0).2=s1 at hi;refine Hf Axa (hl:=(by simp[hS.len])) fun Am Q hQ=>?_;clear Am;have A8:=fun s=>hS.sc s m (Bm _);simp;refine C1 hi ?_;simp;exact hQ (by simp[hS.len,A8])
def Bpn{σ:Type}{S:σ->Ai}{m:Nat}(hS:Gw S m)(l:Ax)(q:Cn->σ->Bool×σ)(fn:Nat)(cap:Ao)(Dv:A0 m cap=true)(hp:∀x∈l,∀s,HP fn ([Ad x]++cap) (S s) (.bool (q x s).1) (S (q x s).2))(s0:σ):
 HP 149 [.sl .none (l.map Ag),.fn (.func fn) [] cap] (S s0) (.int .i64 (D2 q l 0 s0).1) (S (D2 q l 0 s0).2):=by
 refine Hf Axb (hl:=(by simp[hS.len])) fun Am Q hQ=>?_;have B5:l.length<=1073741824:=by simpa[Bl,AV.fits,A1]using Am.1.1
 clear Am;have A8:=fun s=>hS.sc s m (Bm _);simp;refine Ip (A9.loopS S (fun n f s G=>∃k:Nat,k+n=l.length/\f 8= .int .i64 k/\D2 q (l.drop k) k s=D2 q l 0 s0) l.length s0 [] Ab ⟨0,Ab,rfl,Ab⟩ ?_);rintro n f s G ⟨k,hk,h8,hs⟩;refine Ru fun Q2 Aj=>?_;simp[h8];by_cases Af:k<l.length
 . have hd:=Ct Af;simp[Af];refine N5 (first:=[]) (r:=.bool (q l[k] s).1) (H':=S (q l[k] s).2++G) (by simpa[Ad]using(hp l[k] (Cy _) s).suffix (by simp[hS.len]) (by simp[A0,hS.len,Dv]) (by rw[hS.len]; exact A8 s) G) ?_;simp;refine C3 (fun hb=>?_) (fun hb=>?_)
   . have e:D2 q l 0 s0=((k:Int),(q l[k] s).2):=by rw[<- hs,hd]; simp[D2,hb]
     simp;refine Aj (nz ?_);show KR _ _ Q _ _;simp;exact hQ (by simp[e,hS.len,A8])
   simp[Au (n:=(k:Int)+1) Aa Aa];refine Aj (Rb (n-1) (q l[k] s).2 (G':=G) rfl Aa Ab ?_);refine⟨k+1,Aa,Ab,?_⟩;rw[<- hs,hd]; simp[D2,hb]
 have e:D2 q l 0 s0=(-1,s):=by rw[<- hs,Cm Aa]; simp[D2]
 simp[Af];refine Aj (Sk ?_);show KE _ 0 _ Q _ _;simp;exact hQ (by simp[e,hS.len,A8])
def Afn{σ:Type}{S:σ->Ai}{m:Nat}(hS:Gw S m)(l:Ax)(q:Cn->σ->Bool×σ)(fn:Nat)(cap:Ao)(Dv:A0 m cap=true)(hp:∀x∈l,∀s,HP fn ([Ad x]++cap) (S s) (.bool (q x s).1) (S (q x s).2))(s0:σ):
 HP 84 [.sl .none (l.map Ag),.fn (.func fn) [] cap] (S s0) (.bool (C4 q l s0).1) (S (C4 q l s0).2):=by
 have hi:=Bpn hS l q fn cap Dv hp s0;obtain⟨e1,e2⟩:=jm q l 0 s0;rw[e2]at hi;rw[<- e1];generalize (D2 q l 0 s0).1=r at hi;generalize (C4 q l s0).2=s1 at hi;refine Hf Aw9 (hl:=(by simp[hS.len])) fun Am Q hQ=>?_;clear Am;have A8:=fun s=>hS.sc s m (Bm _);simp;refine C1 hi ?_;simp;exact hQ (by simp[hS.len,A8])
def Bps{σ:Type}{S:σ->Ai}{m:Nat}(hS:Gw S m)(l:O8)(q:Sm->σ->Bool×σ)(fn:Nat)(cap:Ao)(Dv:A0 m cap=true)(hp:∀x∈l,∀s,HP fn ([An x]++cap) (S s) (.bool (q x s).1) (S (q x s).2))(s0:σ):
 HP 148 [.sl .none (l.map Bx),.fn (.func fn) [] cap] (S s0) (.int .i64 (D2 q l 0 s0).1) (S (D2 q l 0 s0).2):=by
 refine Hf Bi0 (hl:=(by simp[hS.len])) fun Am Q hQ=>?_;have B5:l.length<=1073741824:=by simpa[Bl,AV.fits,A1]using Am.1.1
 clear Am;have A8:=fun s=>hS.sc s m (Bm _);simp;refine Ip (A9.loopS S (fun n f s G=>∃k:Nat,k+n=l.length/\f 8= .int .i64 k/\D2 q (l.drop k) k s=D2 q l 0 s0) l.length s0 [] Ab ⟨0,Ab,rfl,Ab⟩ ?_);rintro n f s G ⟨k,hk,h8,hs⟩;refine Ru fun Q2 Aj=>?_;simp[h8];by_cases Af:k<l.length
 . have hd:=Ct Af;simp[Af];refine N5 (first:=[]) (r:=.bool (q l[k] s).1) (H':=S (q l[k] s).2++G) (by simpa[An]using(hp l[k] (Cy _) s).suffix (by simp[hS.len]) (by simp[A0,hS.len,Dv]) (by rw[hS.len]; exact A8 s) G) ?_;simp;refine C3 (fun hb=>?_) (fun hb=>?_)
   . have e:D2 q l 0 s0=((k:Int),(q l[k] s).2):=by rw[<- hs,hd]; simp[D2,hb]
     simp;refine Aj (nz ?_);show KR _ _ Q _ _;simp;exact hQ (by simp[e,hS.len,A8])
   simp[Au (n:=(k:Int)+1) Aa Aa];refine Aj (Rb (n-1) (q l[k] s).2 (G':=G) rfl Aa Ab ?_);refine⟨k+1,Aa,Ab,?_⟩;rw[<- hs,hd]; simp[D2,hb]
 have e:D2 q l 0 s0=(-1,s):=by rw[<- hs,Cm Aa]; simp[D2]
 simp[Af];refine Aj (Sk ?_);show KE _ 0 _ Q _ _;simp;exact hQ (by simp[e,hS.len,A8])
def Bpf{σ:Type}{S:σ->Ai}{m:Nat}(hS:Gw S m)(l:O8)(q:Sm->σ->Bool×σ)(fn:Nat)(cap:Ao)(Dv:A0 m cap=true)(hp:∀x∈l,∀s,HP fn ([An x]++cap) (S s) (.bool (q x s).1) (S (q x s).2))(s0:σ):
 HP 82 [.sl .none (l.map Bx),.fn (.func fn) [] cap] (S s0) (.bool (C4 q l s0).1) (S (C4 q l s0).2):=by
 have hi:=Bps hS l q fn cap Dv hp s0;obtain⟨e1,e2⟩:=jm q l 0 s0;rw[e2]at hi;rw[<- e1];generalize (D2 q l 0 s0).1=r at hi;generalize (C4 q l s0).2=s1 at hi;refine Hf Bis (hl:=(by simp[hS.len])) fun Am Q hQ=>?_;clear Am;have A8:=fun s=>hS.sc s m (Bm _);simp;refine C1 hi ?_;simp;exact hQ (by simp[hS.len,A8])
def Bpt{σ:Type}{S:σ->Ai}{m:Nat}(hS:Gw S m)(l:Na)(q:Te->σ->Bool×σ)(fn:Nat)(cap:Ao)(Dv:A0 m cap=true)(hp:∀x∈l,∀s,HP fn ([Ah x]++cap) (S s) (.bool (q x s).1) (S (q x s).2))(s0:σ):
 HP 150 [.sl .none (l.map Bi),.fn (.func fn) [] cap] (S s0) (.int .i64 (D2 q l 0 s0).1) (S (D2 q l 0 s0).2):=by
 refine Hf Bi1 (hl:=(by simp[hS.len])) fun Am Q hQ=>?_;have B5:l.length<=1073741824:=by simpa[Bl,AV.fits,A1]using Am.1.1
 clear Am;have A8:=fun s=>hS.sc s m (Bm _);simp;refine Ip (A9.loopS S (fun n f s G=>∃k:Nat,k+n=l.length/\f 8= .int .i64 k/\D2 q (l.drop k) k s=D2 q l 0 s0) l.length s0 [] Ab ⟨0,Ab,rfl,Ab⟩ ?_);rintro n f s G ⟨k,hk,h8,hs⟩;refine Ru fun Q2 Aj=>?_;simp[h8];by_cases Af:k<l.length
 . have hd:=Ct Af;simp[Af];refine N5 (first:=[]) (r:=.bool (q l[k] s).1) (H':=S (q l[k] s).2++G) (by simpa[Ah]using(hp l[k] (Cy _) s).suffix (by simp[hS.len]) (by simp[A0,hS.len,Dv]) (by rw[hS.len]; exact A8 s) G) ?_;simp;refine C3 (fun hb=>?_) (fun hb=>?_)
   . have e:D2 q l 0 s0=((k:Int),(q l[k] s).2):=by rw[<- hs,hd]; simp[D2,hb]
     simp;refine Aj (nz ?_);show KR _ _ Q _ _;simp;exact hQ (by simp[e,hS.len,A8])
   simp[Au (n:=(k:Int)+1) Aa Aa];refine Aj (Rb (n-1) (q l[k] s).2 (G':=G) rfl Aa Ab ?_);refine⟨k+1,Aa,Ab,?_⟩;rw[<- hs,hd]; simp[D2,hb]
 have e:D2 q l 0 s0=(-1,s):=by rw[<- hs,Cm Aa]; simp[D2]
 simp[Af];refine Aj (Sk ?_);show KE _ 0 _ Q _ _;simp;exact hQ (by simp[e,hS.len,A8])
def Bpg{σ:Type}{S:σ->Ai}{m:Nat}(hS:Gw S m)(l:Na)(q:Te->σ->Bool×σ)(fn:Nat)(cap:Ao)(Dv:A0 m cap=true)(hp:∀x∈l,∀s,HP fn ([Ah x]++cap) (S s) (.bool (q x s).1) (S (q x s).2))(s0:σ):
 HP 87 [.sl .none (l.map Bi),.fn (.func fn) [] cap] (S s0) (.bool (C4 q l s0).1) (S (C4 q l s0).2):=by
 have hi:=Bpt hS l q fn cap Dv hp s0;obtain⟨e1,e2⟩:=jm q l 0 s0;rw[e2]at hi;rw[<- e1];generalize (D2 q l 0 s0).1=r at hi;generalize (C4 q l s0).2=s1 at hi;refine Hf Bit (hl:=(by simp[hS.len])) fun Am Q hQ=>?_;clear Am;have A8:=fun s=>hS.sc s m (Bm _);simp;refine C1 hi ?_;simp;exact hQ (by simp[hS.len,A8])
def Bpp{σ:Type}{S:σ->Ai}{m:Nat}(hS:Gw S m)(l:List El)(q:El->σ->Bool×σ)(fn:Nat)(cap:Ao)(Dv:A0 m cap=true)(hp:∀x∈l,∀s,HP fn ([As x]++cap) (S s) (.bool (q x s).1) (S (q x s).2))(s0:σ):
 HP 89 [.sl .none (l.map Es),.fn (.func fn) [] cap] (S s0) (.int .i64 (D2 q l 0 s0).1) (S (D2 q l 0 s0).2):=by
 refine Hf Biz (hl:=(by simp[hS.len])) fun Am Q hQ=>?_;have B5:l.length<=1073741824:=by simpa[Bl,AV.fits,A1]using Am.1.1
 clear Am;have A8:=fun s=>hS.sc s m (Bm _);simp;refine Ip (A9.loopS S (fun n f s G=>∃k:Nat,k+n=l.length/\f 8= .int .i64 k/\D2 q (l.drop k) k s=D2 q l 0 s0) l.length s0 [] Ab ⟨0,Ab,rfl,Ab⟩ ?_);rintro n f s G ⟨k,hk,h8,hs⟩;refine Ru fun Q2 Aj=>?_;simp[h8];by_cases Af:k<l.length
 . have hd:=Ct Af;simp[Af];refine N5 (first:=[]) (r:=.bool (q l[k] s).1) (H':=S (q l[k] s).2++G) (by simpa[As]using(hp l[k] (Cy _) s).suffix (by simp[hS.len]) (by simp[A0,hS.len,Dv]) (by rw[hS.len]; exact A8 s) G) ?_;simp;refine C3 (fun hb=>?_) (fun hb=>?_)
   . have e:D2 q l 0 s0=((k:Int),(q l[k] s).2):=by rw[<- hs,hd]; simp[D2,hb]
     simp;refine Aj (nz ?_);show KR _ _ Q _ _;simp;exact hQ (by simp[e,hS.len,A8])
   simp[Au (n:=(k:Int)+1) Aa Aa];refine Aj (Rb (n-1) (q l[k] s).2 (G':=G) rfl Aa Ab ?_);refine⟨k+1,Aa,Ab,?_⟩;rw[<- hs,hd]; simp[D2,hb]
 have e:D2 q l 0 s0=(-1,s):=by rw[<- hs,Cm Aa]; simp[D2]
 simp[Af];refine Aj (Sk ?_);show KE _ 0 _ Q _ _;simp;exact hQ (by simp[e,hS.len,A8])
def Bpe{σ:Type}{S:σ->Ai}{m:Nat}(hS:Gw S m)(l:List El)(q:El->σ->Bool×σ)(fn:Nat)(cap:Ao)(Dv:A0 m cap=true)(hp:∀x∈l,∀s,HP fn ([As x]++cap) (S s) (.bool (q x s).1) (S (q x s).2))(s0:σ):
 HP 19 [.sl .none (l.map Es),.fn (.func fn) [] cap] (S s0) (.bool (C4 q l s0).1) (S (C4 q l s0).2):=by
 have hi:=Bpp hS l q fn cap Dv hp s0;obtain⟨e1,e2⟩:=jm q l 0 s0;rw[e2]at hi;rw[<- e1];generalize (D2 q l 0 s0).1=r at hi;generalize (C4 q l s0).2=s1 at hi;refine Hf Bir (hl:=(by simp[hS.len])) fun Am Q hQ=>?_;clear Am;have A8:=fun s=>hS.sc s m (Bm _);simp;refine C1 hi ?_;simp;exact hQ (by simp[hS.len,A8])
section
structure Ko (S:Int->List HB) (p m:Nat):Prop where
 h:Gw S m
 lt:p<m
 get:∀s,(S s)[p]? =some (.var [.int .i64 s])
 set:∀s s',(S s).set p (.var [.int .i64 s'])=S s'
section
variable {S:Int->List HB} {p m:Nat}
def Ko.getA(h:Ko S p m)(s:Int)(L:Ai):(S s++L)[p]? =some (.var [.int .i64 s]):=by rw[h.h.low s L h.lt]; exact h.get s
def Ko.setA(h:Ko S p m)(s s':Int)(L:Ai):(S s++L).set p (.var [.int .i64 s'])=S s'++L:=by rw[h.h.setLow s L h.lt,h.set]
def Ko.more(h:Ko S p m)(L:Ai)(hs:∀k,m+L.length<=k->Be k L=true):Ko (fun s=>S s++L) p (m+L.length) where
 h:=h.h.more L hs
 lt:=by have:=h.lt;omega
 get s:=h.getA s L
 set s s':=h.setA s s' L
end
mutual
def fk:Kd->Int->Bool×Int
 | .mk l,n=>if IntKind.i64.wrap (n-1)<0 then(false,IntKind.i64.wrap (n-1))else(!(ia l (IntKind.i64.wrap (n-1))).1,(ia l (IntKind.i64.wrap (n-1))).2)
def ia:List Kd->Int->Bool×Int
 | [],n=>(false,n)
 |x::l,n=>if(fk x n).1=true then ia l (fk x n).2 else(true,(fk x n).2)
end
def Jz(x:Kd)(n:Int):Bool×Int:=(!(fk x n).1,(fk x n).2)
def Ate:∀(l:List Kd) (n:Int),ia l n=C4 Jz l n
 | [],n=>by simp[ia,C4]
 |x::l,n=>by
  have:=Ate l;rw[ia,C4,Jz];cases h:(fk x n).1<;>simp[this]
def Atd(k:Kd)(n:Int):fk k n=if IntKind.i64.wrap (n-1)<0 then(false,IntKind.i64.wrap (n-1))else(!(C4 Jz k.l (IntKind.i64.wrap (n-1))).1,(C4 Jz k.l (IntKind.i64.wrap (n-1))).2):=by
 cases k;rw[fk]; simp[Ate,Kd.l]
def ln(k:Kd):Prop:=∀(S:Int->List HB) (p m:Nat),Ko S p m->∀n,HP 78 [Ba k,.ptr p 0] (S n) (.bool (fk k n).1) (S (fk k n).2)
def A8u{S:Int->Ai}{p m q:Nat}(hC:Ko S p m)(hq:q<m)(hv:∀s,(S s)[q]? =some (.var [.ptr p 0]))(x:Kd)(hx:ln x)(s:Int):HP 144 [Ba x,.ptr q 0] (S s) (.bool (Jz x s).1) (S (Jz x s).2):=by
 have hm:=hx _ p _ (hC.more [.var (Ak x)] (fun k _=>Ab)) s;have a1:=hC.h.len;have a2:=hC.h.at0;have a4:∀s L,(S s++L)[q]? =some (.var [.ptr p 0]):=fun s L=>(hC.h.low s L hq).trans (hv s);have A8:=fun s=>hC.h.sc s m (Bm _);refine Hf Be0 (hl:=(by simp[a1])) fun Am Q hQ=>?_;clear Am;simp[Ba,Df x,a1,a4];refine C1 (by simpa[Ba,Df x]using hm) ?_;simp;exact hQ (by simp[a1,A8,Jz])
def A8w{S:Int->Ai}{p m q:Nat}(hC:Ko S p m)(hq:q<m)(hv:∀s,(S s)[q]? =some (.var [.ptr p 0]))(x:Kd)(hx:ln x)(s:Int):HP 77 [Ba x,.ptr q 0] (S s) (.bool (Jz x s).1) (S (Jz x s).2):=by
 have hm:=hx _ p _ (hC.more [.var (Ak x)] (fun k _=>Ab)) s;have a1:=hC.h.len;have a2:=hC.h.at0;have a4:∀s L,(S s++L)[q]? =some (.var [.ptr p 0]):=fun s L=>(hC.h.low s L hq).trans (hv s);have A8:=fun s=>hC.h.sc s m (Bm _);refine Hf Be2 (hl:=(by simp[a1])) fun Am Q hQ=>?_;clear Am;simp[Ba,Df x,a1,a4];refine C1 (by simpa[Ba,Df x]using hm) ?_;simp;exact hQ (by simp[a1,A8,Jz])
def A8v(k:Kd)(A6:∀x∈k.l,ln x):ln k:=by
 intro S p m hC n;have key:=Atd k n;have a1:=hC.h.len;have a2:=hC.h.at0;have a3:=hC.h.get;have a4:=hC.getA;have a5:=hC.setA;have A8:=fun s=>hC.h.sc s m (Bm _);have Af:=hC.lt;have hM:=hC.more [.var (Ak k),.var [.ptr p 0]] (fun k hk=>by simp at hk;simp[Be,A0,AV.inScope]; omega);have Fy:=fun s=>A00 hM.h k.l Jz 144 [.ptr (m+1) 0] (by simp[A0,AV.inScope]) (fun x hx s=>A8u hM Ab (fun s=>by simpa using a3 s [.var (Ak k),.var [.ptr p 0]] 1) x (A6 x hx) s) s;generalize De:IntKind.i64.wrap (n-1)=n1 at key;specialize Fy n1;generalize C4 Jz k.l n1=r at key Fy;refine Hf Bez (hl:=(by simp[a1])) fun Am Q hQ=>?_;clear Am;simp[Ba,Df k,a1,a4,a5,De];by_cases h:n1<0
 . rw[Ae h]at key;have h':¬0<=n1:=Aa;simp[h'];exact hQ
 rw[Ac h]at key;have h':0<=n1:=Aa;simp[h',a2];refine C1 (by simpa[Df k]using Fy) ?_;simp;exact hQ
def mq(k:Kd):ln k:=A8v k fun x _=>mq x
termination_by SizeOf.sizeOf k
decreasing_by exact Kd.lt_l ‹_›
def Lg(l:List Kd)(n:Int):Bool×Int:=if l.length<=20 then(!(C4 Jz l n).1,(C4 Jz l n).2)else(false,n)
def sw(l:B6){S:Int->Ai}{p m:Nat}(hC:Ko S p m)(n:Int):HP 15 [.sl .none (l.map Ak),.ptr p 0] (S n) (.bool (Lg l n).1) (S (Lg l n).2):=by
 have a1:=hC.h.len;have a2:=hC.h.at0;have A8:=fun s=>hC.h.sc s m (Bm _);have Af:=hC.lt;have hM:=hC.more [.var [.ptr p 0]] (fun k hk=>by simp at hk;simp[Be,A0,AV.inScope]; omega);have Fy:=A00 hM.h l Jz 77 [.ptr m 0] (by simp[A0,AV.inScope]) (fun x hx s=>A8w hM Ab (fun s=>by simpa using a2 s [.var [.ptr p 0]]) x (mq x) s) n;have key:Lg l n=if l.length<=20 then(!(C4 Jz l n).1,(C4 Jz l n).2)else(false,n):=rfl;generalize Lg l n=z at key;generalize C4 Jz l n=r at key Fy;refine Hf Be1 (hl:=(by simp[a1])) fun Am Q hQ=>?_;clear Am;simp[a1];by_cases h:l.length<=20
 . rw[Ae h]at key;have h':(l.length:Int)<=20:=Aa;simp[h'];refine C1 (by simpa using Fy) ?_;simp;exact hQ
 rw[Ac h]at key;have h':¬(l.length:Int)<=20:=Aa;simp[h'];exact hQ
end
def Xv(l:List (List UInt8)):Bool:=l.any fun s=>decide (60<s.length)
def A8q(s:Bu):Hc 146 [.str s] (.bool (decide (60<s.length))):=by
 refine Hg Bev fun Q hQ=>?_;simp;by_cases h:60<s.length
 . have h':(60:Int)<s.length:=by omega
   simp[h'];exact hQ
 have h':¬(60:Int)<s.length:=by omega
 simp[h'];exact hQ
def A8x(s:Bu):Hc 80 [.str s] (.bool (decide (60<s.length))):=by
 refine Hg Be4 fun Q hQ=>?_;simp;by_cases h:60<s.length
 . have h':(60:Int)<s.length:=by omega
   simp[h'];exact hQ
 have h':¬(60:Int)<s.length:=by omega
 simp[h'];exact hQ
def A80(s:Bu):Hc 86 [.str s] (.bool (decide (60<s.length))):=by
 refine Hg Be7 fun Q hQ=>?_;simp;by_cases h:60<s.length
 . have h':(60:Int)<s.length:=by omega
   simp[h'];exact hQ
 have h':¬(60:Int)<s.length:=by omega
 simp[h'];exact hQ
mutual
def fc:Cn->Int->Int->Bool×Int
 | .mk _ _ s k ns l,n,d=>if IntKind.i64.wrap (n-1)<0\/60<d\/60<s.length\/20<ns.length\/Xv ns=true then(false,IntKind.i64.wrap (n-1))else
   if(fk k (IntKind.i64.wrap (n-1))).1=false then fk k (IntKind.i64.wrap (n-1))else
    (!(gu l (fk k (IntKind.i64.wrap (n-1))).2 (IntKind.i64.wrap (d+1))).1,(gu l (fk k (IntKind.i64.wrap (n-1))).2 (IntKind.i64.wrap (d+1))).2)
def gu:List Cn->Int->Int->Bool×Int
 | [],n,_=>(false,n)
 |x::l,n,d=>if(fc x n d).1=true then gu l (fc x n d).2 d else(true,(fc x n d).2)
end
def Jy(d:Int)(x:Cn)(n:Int):Bool×Int:=(!(fc x n d).1,(fc x n d).2)
def As5:∀(l:List Cn) (n d:Int),gu l n d=C4 (Jy d) l n
 | [],n,d=>by simp[gu,C4]
 |x::l,n,d=>by
  have:=fun n=>As5 l n d;rw[gu,C4,Jy];cases h:(fc x n d).1<;>simp[this]
def As4(c:Cn)(n d:Int):fc c n d=if IntKind.i64.wrap (n-1)<0\/60<d\/60<c.s.length\/20<c.names.length\/Xv c.names=true then(false,IntKind.i64.wrap (n-1))else
 if(fk c.k (IntKind.i64.wrap (n-1))).1=false then fk c.k (IntKind.i64.wrap (n-1))else
  (!(C4 (Jy (IntKind.i64.wrap (d+1))) c.l (fk c.k (IntKind.i64.wrap (n-1))).2).1,(C4 (Jy (IntKind.i64.wrap (d+1))) c.l (fk c.k (IntKind.i64.wrap (n-1))).2).2):=by
 cases c;rw[fc]; simp only[As5,Cn.s,Cn.k,Cn.names,Cn.l]; rfl
def lm(c:Cn):Prop:=∀(S:Int->List HB) (p m:Nat),Ko S p m->∀n d,HP 81 [Ad c,.ptr p 0,.int .i64 d] (S n) (.bool (fc c n d).1) (S (fc c n d).2)
def A8r{S:Int->Ai}{p m q r:Nat}(hC:Ko S p m)(hq:q<m)(hv:∀s,(S s)[q]? =some (.var [.ptr p 0]))(d:Int)(hr:r<m)(hw:∀s,(S s)[r]? =some (.var [.int .i64 d]))(x:Cn)(hx:lm x)(s:Int):
 HP 147 [Ad x,.ptr q 0,.ptr r 0] (S s) (.bool (Jy (IntKind.i64.wrap (d+1)) x s).1) (S (Jy (IntKind.i64.wrap (d+1)) x s).2):=by
 have hm:=hx _ p _ (hC.more [.var (Ag x)] (fun k _=>Ab)) s (IntKind.i64.wrap (d+1));have a1:=hC.h.len;have a2:=hC.h.at0;have a4:∀s L,(S s++L)[q]? =some (.var [.ptr p 0]):=fun s L=>(hC.h.low s L hq).trans (hv s);have a5:∀s L,(S s++L)[r]? =some (.var [.int .i64 d]):=fun s L=>(hC.h.low s L hr).trans (hw s);have A8:=fun s=>hC.h.sc s m (Bm _);refine Hf Bew (hl:=(by simp[a1])) fun Am Q hQ=>?_;clear Am;simp[Ad,a1,a4,a5];refine C1 (by simpa[Ad]using hm) ?_;simp;exact hQ (by simp[a1,A8,Jy])
def A8t{S:Int->Ai}{p m q:Nat}(hC:Ko S p m)(hq:q<m)(hv:∀s,(S s)[q]? =some (.var [.ptr p 0]))(x:Cn)(hx:lm x)(s:Int):
 HP 85 [Ad x,.ptr q 0] (S s) (.bool (Jy 0 x s).1) (S (Jy 0 x s).2):=by
 have hm:=hx _ p _ (hC.more [.var (Ag x)] (fun k _=>Ab)) s 0;have a1:=hC.h.len;have a2:=hC.h.at0;have a4:∀s L,(S s++L)[q]? =some (.var [.ptr p 0]):=fun s L=>(hC.h.low s L hq).trans (hv s);have A8:=fun s=>hC.h.sc s m (Bm _);refine Hf Bey (hl:=(by simp[a1])) fun Am Q hQ=>?_;clear Am;simp[Ad,a1,a4];refine C1 (by simpa[Ad]using hm) ?_;simp;exact hQ (by simp[a1,A8,Jy])
def A8s(c:Cn)(A6:∀x∈c.l,lm x):lm c:=by
 intro S p m hC n d;have key:=As4 c n d;have a1:=hC.h.len;have a2:=hC.h.at0;have a3:=hC.h.get;have a4:=hC.getA;have a5:=hC.setA;have A8:=fun s=>hC.h.sc s m (Bm _);have Af:=hC.lt;have hM:=hC.more [.var (Ag c),.var [.ptr p 0],.var [.int .i64 d]] (fun k hk=>by simp at hk;simp[Be,A0,AV.inScope]; omega)
 have Fy:=fun s=>Afn hM.h c.l (Jy (IntKind.i64.wrap (d+1))) 147 [.ptr (m+1) 0,.ptr (m+2) 0] (by simp[A0,AV.inScope])
  (fun x hx s=>A8r hM Ab (fun s=>by simpa using a3 s [.var (Ag c),.var [.ptr p 0],.var [.int .i64 d]] 1) d Ab (fun s=>by simpa using a3 s [.var (Ag c),.var [.ptr p 0],.var [.int .i64 d]] 2) x (A6 x hx) s) s
 have Vu:=mq c.k _ _ _ hM;have Iu:=ou c.names _ _ fun x _=>A8q x;have Vx:(At c.names).length=c.names.length:=by simp[At]
 generalize De:IntKind.i64.wrap (n-1)=n1 at key;specialize Vu n1;generalize fk c.k n1=a at key Vu;specialize Fy a.2;generalize C4 (Jy (IntKind.i64.wrap (d+1))) c.l a.2=r at key Fy;have hl:Xv c.names=c.names.any fun s=>decide (60<s.length):=rfl;generalize (c.names.any fun s=>decide (60<s.length))=lg at hl Iu;rw[hl]at key;clear hl;refine Hf Beu (hl:=(by simp[a1])) fun Am Q hQ=>?_;clear Am;simp[-Az,Ad,Ap c];rw[Az];simp[-Az,a1];rw[Az];simp[-Az,a1,a4,a5,De];by_cases h1:n1<0
 . rw[Ae (.inl h1)]at key;simp[h1,a3,a4];exact hQ
 by_cases h2:60<d
 . rw[Ae (.inr (.inl h2))]at key;simp[h1,h2,a3,a4];exact hQ
 by_cases h3:60<c.s.length
 . rw[Ae (.inr (.inr (.inl h3)))]at key;have h3':(60:Int)<c.s.length:=Aa;simp[h1,h2,h3',a2,a3,a4];exact hQ
 have h3':¬(60:Int)<c.s.length:=Aa;by_cases h4:20<c.names.length
 . rw[Ae (.inr (.inr (.inr (.inl h4))))]at key;have R6:(20:Int)<c.names.length:=Aa;simp[h1,h2,h3',R6,a2,a3,a4,Vx];exact hQ
 have R6:¬(20:Int)<c.names.length:=Aa;simp[h1,h2,h3',R6,a2,a3,a4,Vx];refine Ca Iu ?_;cases lg
 . rw[Ac (by simp[h1,h2,h3,h4])]at key;simp[a2,a3];refine C1 (by simpa[Ba,Df,Ap c]using Vu) ?_;obtain⟨b,n2⟩:=a;simp only at key Fy ⊢;cases b
   . rw[Ae rfl]at key;simp;exact hQ
   rw[Ac Ab]at key;simp[a2];refine C1 (by simpa[Ap c]using Fy) ?_;simp;exact hQ
 rw[Ae Ab]at key;simp;exact hQ
def mn(c:Cn):lm c:=A8s c fun x _=>mn x
termination_by SizeOf.sizeOf c
decreasing_by exact Cn.lt_l ‹_›
def Qx(l:List Cn)(n:Int):Bool×Int:=if l.length<=20 then(!(C4 (Jy 0) l n).1,(C4 (Jy 0) l n).2)else(false,n)
def As6(l:Ax){S:Int->Ai}{p m:Nat}(hC:Ko S p m)(n:Int):HP 17 [.sl .none (l.map Ag),.ptr p 0] (S n) (.bool (Qx l n).1) (S (Qx l n).2):=by
 have a1:=hC.h.len;have a2:=hC.h.at0;have A8:=fun s=>hC.h.sc s m (Bm _);have Af:=hC.lt;have hM:=hC.more [.var [.ptr p 0]] (fun k hk=>by simp at hk;simp[Be,A0,AV.inScope]; omega);have Fy:=Afn hM.h l (Jy 0) 85 [.ptr m 0] (by simp[A0,AV.inScope]) (fun x hx s=>A8t hM Ab (fun s=>by simpa using a2 s [.var [.ptr p 0]]) x (mn x) s) n;have key:Qx l n=if l.length<=20 then(!(C4 (Jy 0) l n).1,(C4 (Jy 0) l n).2)else(false,n):=rfl;generalize Qx l n=z at key;generalize C4 (Jy 0) l n=r at key Fy;refine Hf Bex (hl:=(by simp[a1])) fun Am Q hQ=>?_;clear Am;simp[a1];by_cases h:l.length<=20
 . rw[Ae h]at key;have h':(l.length:Int)<=20:=Aa;simp[h'];refine C1 (by simpa using Fy) ?_;simp;exact hQ
 rw[Ac h]at key;have h':¬(l.length:Int)<=20:=Aa;simp[h'];exact hQ
def Sm.lt_l'{c x:Sm}(h:x∈c.l):SizeOf.sizeOf x<SizeOf.sizeOf c:=by
 cases c;simp only[Sm.l]at h;have:=qh h;simp;omega
def Dn(a:Bool×Int)(f:Int->Bool×Int):Bool×Int:=if a.1=true then f a.2 else a
mutual
def fs:Sm->Int->Int->Bool×Int
 | .mk _ _ s con k ks more ns l,n,d=>if(IntKind.i64.wrap (n-1))<0\/60<d\/60<s.length\/20<ns.length\/Xv ns=true then(false,(IntKind.i64.wrap (n-1)))else Dn (fc con (IntKind.i64.wrap (n-1)) 0) fun n=>Dn (fk k n) fun n=>Dn (Lg ks n) fun n=>Dn (Lg more n) fun n=>(!(ic l n (IntKind.i64.wrap (d+1))).1,(ic l n (IntKind.i64.wrap (d+1))).2)
def ic:List Sm->Int->Int->Bool×Int
 | [],n,_=>(false,n)
 |x::l,n,d=>if(fs x n d).1=true then ic l (fs x n d).2 d else(true,(fs x n d).2)
end
def S3(d:Int)(x:Sm)(n:Int):Bool×Int:=(!(fs x n d).1,(fs x n d).2)
def Att:∀(l:List Sm) (n d:Int),ic l n d=C4 (S3 d) l n
 | [],n,d=>by simp[ic,C4]
 |x::l,n,d=>by
  have:=fun n=>Att l n d;rw[ic,C4,S3];cases h:(fs x n d).1<;>simp[this]
def Ab4(c:Sm)(n d:Int):fs c n d=if(IntKind.i64.wrap (n-1))<0\/60<d\/60<c.s.length\/20<c.names.length\/Xv c.names=true then(false,(IntKind.i64.wrap (n-1)))else Dn (fc c.con (IntKind.i64.wrap (n-1)) 0) fun n=>Dn (fk c.k n) fun n=>Dn (Lg c.ks n) fun n=>Dn (Lg c.more n) fun n=>(!(C4 (S3 (IntKind.i64.wrap (d+1))) c.l n).1,(C4 (S3 (IntKind.i64.wrap (d+1))) c.l n).2):=by
 cases c;rw[fs]; simp only[Att,Sm.s,Sm.names,Sm.l,Sm.con,Sm.k,Sm.ks,Sm.more]; rfl
def pz(c:Sm):Prop:=∀(S:Int->List HB) (p m:Nat),Ko S p m->∀n d,HP 16 [An c,.ptr p 0,.int .i64 d] (S n) (.bool (fs c n d).1) (S (fs c n d).2)
def A8y{S:Int->Ai}{p m q r:Nat}(hC:Ko S p m)(hq:q<m)(hv:∀s,(S s)[q]? =some (.var [.ptr p 0]))(d:Int)(hr:r<m)(hw:∀s,(S s)[r]? =some (.var [.int .i64 d]))(x:Sm)(hx:pz x)(s:Int):
 HP 83 [An x,.ptr q 0,.ptr r 0] (S s) (.bool (S3 (IntKind.i64.wrap (d+1)) x s).1) (S (S3 (IntKind.i64.wrap (d+1)) x s).2):=by
 have hm:=hx _ p _ (hC.more [.var (Bx x)] (fun k _=>Ab)) s (IntKind.i64.wrap (d+1));have a1:=hC.h.len;have a2:=hC.h.at0;have a4:∀s L,(S s++L)[q]? =some (.var [.ptr p 0]):=fun s L=>(hC.h.low s L hq).trans (hv s);have a5:∀s L,(S s++L)[r]? =some (.var [.int .i64 d]):=fun s L=>(hC.h.low s L hr).trans (hw s);have A8:=fun s=>hC.h.sc s m (Bm _);refine Hf Be5 (hl:=(by simp[a1])) fun Am Q hQ=>?_;clear Am;simp[An,a1,a4,a5];refine C1 (by simpa[An]using hm) ?_;simp;exact hQ (by simp[a1,A8,S3])
def A8z(c:Sm)(A6:∀x∈c.l,pz x):pz c:=by
 intro S p m hC n d;have key:=Ab4 c n d;have a1:=hC.h.len;have a2:=hC.h.at0;have a3:=hC.h.get;have a4:=hC.getA;have a5:=hC.setA;have A8:=fun s=>hC.h.sc s m (Bm _);have Af:=hC.lt;have hM:=hC.more [.var (Bx c),.var [.ptr p 0],.var [.int .i64 d]] (fun k hk=>by simp at hk;simp[Be,A0,AV.inScope]; omega)
 have Fy:=fun s=>Bpf hM.h c.l (S3 (IntKind.i64.wrap (d+1))) 83 [.ptr (m+1) 0,.ptr (m+2) 0] (by simp[A0,AV.inScope])
  (fun x hx s=>A8y hM Ab (fun s=>by simpa using a3 s [.var (Bx c),.var [.ptr p 0],.var [.int .i64 d]] 1) d Ab (fun s=>by simpa using a3 s [.var (Bx c),.var [.ptr p 0],.var [.int .i64 d]] 2) x (A6 x hx) s) s
 have Iu:=ou c.names _ _ fun x _=>A8x x;have Vx:(At c.names).length=c.names.length:=by simp[At]
 generalize De:IntKind.i64.wrap (n-1)=n1 at key;have hl:Xv c.names=c.names.any fun s=>decide (60<s.length):=rfl;generalize (c.names.any fun s=>decide (60<s.length))=lg at hl Iu;rw[hl]at key;clear hl;refine Hf Be3 (hl:=(by simp[a1])) fun Am Q hQ=>?_;clear Am;simp[-Az,An,Av c];rw[Az];simp[-Az,a1];rw[Az];simp[-Az,a1,a4,a5,De];by_cases h1:n1<0
 . rw[Ae (.inl h1)]at key;simp[h1,a3,a4];exact hQ
 by_cases h2:60<d
 . rw[Ae (.inr (.inl h2))]at key;simp[h1,h2,a3,a4];exact hQ
 by_cases h3:60<c.s.length
 . rw[Ae (.inr (.inr (.inl h3)))]at key;have h3':(60:Int)<c.s.length:=Aa;simp[h1,h2,h3',a2,a3,a4];exact hQ
 have h3':¬(60:Int)<c.s.length:=Aa;by_cases h4:20<c.names.length
 . rw[Ae (.inr (.inr (.inr (.inl h4))))]at key;have R6:(20:Int)<c.names.length:=Aa;simp[h1,h2,h3',R6,a2,a3,a4,Vx];exact hQ
 have R6:¬(20:Int)<c.names.length:=Aa;simp[h1,h2,h3',R6,a2,a3,a4,Vx];refine Ca Iu ?_;cases lg
 case true=>
  rw[Ae Ab]at key;simp;exact hQ
 rw[Ac (by simp[h1,h2,h3,h4])]at key;simp[a2,a3];have Nr:=mn c.con _ _ _ hM n1 0;generalize fc c.con n1 0=r0 at key Nr;obtain⟨b0,m0⟩:=r0;refine C1 (by simpa[Ba,Df,Ad,Ap,Av c]using Nr) ?_;cases b0
 . rw[Dn,Ac Ab]at key;simp;exact hQ
 rw[Dn,Ae rfl]at key;simp only at key ⊢;simp[a2,a3];have hk1:=mq c.k _ _ _ hM m0;generalize fk c.k m0=r1 at key hk1;obtain⟨b1,m1⟩:=r1;refine C1 (by simpa[Ba,Df,Ad,Ap,Av c]using hk1) ?_;cases b1
 . rw[Dn,Ac Ab]at key;simp;exact hQ
 rw[Dn,Ae rfl]at key;simp only at key ⊢;simp[a2,a3];have hk2:=sw c.ks hM m1;generalize Lg c.ks m1=r2 at key hk2;obtain⟨b2,m2⟩:=r2;refine C1 (by simpa[Ba,Df,Ad,Ap,Av c]using hk2) ?_;cases b2
 . rw[Dn,Ac Ab]at key;simp;exact hQ
 rw[Dn,Ae rfl]at key;simp only at key ⊢;simp[a2,a3];have Q6:=sw c.more hM m2;generalize Lg c.more m2=r3 at key Q6;obtain⟨b3,m3⟩:=r3;refine C1 (by simpa[Ba,Df,Ad,Ap,Av c]using Q6) ?_;cases b3
 . rw[Dn,Ac Ab]at key;simp;exact hQ
 rw[Dn,Ae rfl]at key;simp only at key ⊢;simp[a2];have Fy:=Fy m3;generalize C4 (S3 (IntKind.i64.wrap (d+1))) c.l m3=r at key Fy;refine C1 (by simpa[Av c]using Fy) ?_;simp;exact hQ
def Abu(c:Sm):pz c:=A8z c fun x _=>Abu x
termination_by SizeOf.sizeOf c
decreasing_by exact Sm.lt_l' ‹_›
mutual
def ft:Te->Int->Int->Bool×Int
 | .mk _ _ s con tto k ns l,n,d=>if(IntKind.i64.wrap (n-1))<0\/60<d\/200<s.length\/20<ns.length\/Xv ns=true then(false,(IntKind.i64.wrap (n-1)))else Dn (fc con (IntKind.i64.wrap (n-1)) 0) fun n=>Dn (fc tto n 0) fun n=>Dn (fk k n) fun n=>(!(ie l n (IntKind.i64.wrap (d+1))).1,(ie l n (IntKind.i64.wrap (d+1))).2)
def ie:List Te->Int->Int->Bool×Int
 | [],n,_=>(false,n)
 |x::l,n,d=>if(ft x n d).1=true then ie l (ft x n d).2 d else(true,(ft x n d).2)
end
def P2(d:Int)(x:Te)(n:Int):Bool×Int:=(!(ft x n d).1,(ft x n d).2)
def Atw:∀(l:List Te) (n d:Int),ie l n d=C4 (P2 d) l n
 | [],n,d=>by simp[ie,C4]
 |x::l,n,d=>by
  have:=fun n=>Atw l n d;rw[ie,C4,P2];cases h:(ft x n d).1<;>simp[this]
def Atv(c:Te)(n d:Int):ft c n d=if(IntKind.i64.wrap (n-1))<0\/60<d\/200<c.s.length\/20<c.names.length\/Xv c.names=true then(false,(IntKind.i64.wrap (n-1)))else Dn (fc c.con (IntKind.i64.wrap (n-1)) 0) fun n=>Dn (fc c.to n 0) fun n=>Dn (fk c.k n) fun n=>(!(C4 (P2 (IntKind.i64.wrap (d+1))) c.l n).1,(C4 (P2 (IntKind.i64.wrap (d+1))) c.l n).2):=by
 cases c;rw[ft]; simp only[Atw,Te.s,Te.names,Te.l,Te.con,Te.to,Te.k]; rfl
def p7(c:Te):Prop:=∀(S:Int->List HB) (p m:Nat),Ko S p m->∀n d,HP 18 [Ah c,.ptr p 0,.int .i64 d] (S n) (.bool (ft c n d).1) (S (ft c n d).2)
def A81{S:Int->Ai}{p m q r:Nat}(hC:Ko S p m)(hq:q<m)(hv:∀s,(S s)[q]? =some (.var [.ptr p 0]))(d:Int)(hr:r<m)(hw:∀s,(S s)[r]? =some (.var [.int .i64 d]))(x:Te)(hx:p7 x)(s:Int):
 HP 88 [Ah x,.ptr q 0,.ptr r 0] (S s) (.bool (P2 (IntKind.i64.wrap (d+1)) x s).1) (S (P2 (IntKind.i64.wrap (d+1)) x s).2):=by
 have hm:=hx _ p _ (hC.more [.var (Bi x)] (fun k _=>Ab)) s (IntKind.i64.wrap (d+1));have a1:=hC.h.len;have a2:=hC.h.at0;have a4:∀s L,(S s++L)[q]? =some (.var [.ptr p 0]):=fun s L=>(hC.h.low s L hq).trans (hv s);have a5:∀s L,(S s++L)[r]? =some (.var [.int .i64 d]):=fun s L=>(hC.h.low s L hr).trans (hw s);have A8:=fun s=>hC.h.sc s m (Bm _);refine Hf Be8 (hl:=(by simp[a1])) fun Am Q hQ=>?_;clear Am;simp[Ah,a1,a4,a5];refine C1 (by simpa[Ah]using hm) ?_;simp;exact hQ (by simp[a1,A8,P2])
def A82(c:Te)(A6:∀x∈c.l,p7 x):p7 c:=by
 intro S p m hC n d;have key:=Atv c n d;have a1:=hC.h.len;have a2:=hC.h.at0;have a3:=hC.h.get;have a4:=hC.getA;have a5:=hC.setA;have A8:=fun s=>hC.h.sc s m (Bm _);have Af:=hC.lt;have hM:=hC.more [.var (Bi c),.var [.ptr p 0],.var [.int .i64 d]] (fun k hk=>by simp at hk;simp[Be,A0,AV.inScope]; omega)
 have Fy:=fun s=>Bpg hM.h c.l (P2 (IntKind.i64.wrap (d+1))) 88 [.ptr (m+1) 0,.ptr (m+2) 0] (by simp[A0,AV.inScope])
  (fun x hx s=>A81 hM Ab (fun s=>by simpa using a3 s [.var (Bi c),.var [.ptr p 0],.var [.int .i64 d]] 1) d Ab (fun s=>by simpa using a3 s [.var (Bi c),.var [.ptr p 0],.var [.int .i64 d]] 2) x (A6 x hx) s) s
 have Iu:=ou c.names _ _ fun x _=>A80 x;have Vx:(At c.names).length=c.names.length:=by simp[At]
 generalize De:IntKind.i64.wrap (n-1)=n1 at key;have hl:Xv c.names=c.names.any fun s=>decide (60<s.length):=rfl;generalize (c.names.any fun s=>decide (60<s.length))=lg at hl Iu;rw[hl]at key;clear hl;refine Hf Be6 (hl:=(by simp[a1])) fun Am Q hQ=>?_;clear Am;simp[-Az,Ah,Aq c];rw[Az];simp[-Az,a1];rw[Az];simp[-Az,a1,a4,a5,De];by_cases h1:n1<0
 . rw[Ae (.inl h1)]at key;simp[h1,a3,a4];exact hQ
 by_cases h2:60<d
 . rw[Ae (.inr (.inl h2))]at key;simp[h1,h2,a3,a4];exact hQ
 by_cases h3:200<c.s.length
 . rw[Ae (.inr (.inr (.inl h3)))]at key;have h3':(200:Int)<c.s.length:=Aa;simp[h1,h2,h3',a2,a3,a4];exact hQ
 have h3':¬(200:Int)<c.s.length:=Aa;by_cases h4:20<c.names.length
 . rw[Ae (.inr (.inr (.inr (.inl h4))))]at key;have R6:(20:Int)<c.names.length:=Aa;simp[h1,h2,h3',R6,a2,a3,a4,Vx];exact hQ
 have R6:¬(20:Int)<c.names.length:=Aa;simp[h1,h2,h3',R6,a2,a3,a4,Vx];refine Ca Iu ?_;cases lg
 case true=>
  rw[Ae Ab]at key;simp;exact hQ
 rw[Ac (by simp[h1,h2,h3,h4])]at key;simp[a2,a3];have Nr:=mn c.con _ _ _ hM n1 0;generalize fc c.con n1 0=r0 at key Nr;obtain⟨b0,m0⟩:=r0;refine C1 (by simpa[Ba,Df,Ad,Ap,Aq c]using Nr) ?_;cases b0
 . rw[Dn,Ac Ab]at key;simp;exact hQ
 rw[Dn,Ae rfl]at key;simp only at key ⊢;simp[a2,a3];have hk1:=mn c.to _ _ _ hM m0 0;generalize fc c.to m0 0=r1 at key hk1;obtain⟨b1,m1⟩:=r1;refine C1 (by simpa[Ba,Df,Ad,Ap,Aq c]using hk1) ?_;cases b1
 . rw[Dn,Ac Ab]at key;simp;exact hQ
 rw[Dn,Ae rfl]at key;simp only at key ⊢;simp[a2,a3];have hk2:=mq c.k _ _ _ hM m1;generalize fk c.k m1=r2 at key hk2;obtain⟨b2,m2⟩:=r2;refine C1 (by simpa[Ba,Df,Ad,Ap,Aq c]using hk2) ?_;cases b2
 . rw[Dn,Ac Ab]at key;simp;exact hQ
 rw[Dn,Ae rfl]at key;simp only at key ⊢;simp[a2];have Fy:=Fy m2;generalize C4 (P2 (IntKind.i64.wrap (d+1))) c.l m2=r at key Fy;refine C1 (by simpa[Aq c]using Fy) ?_;simp;exact hQ
def Abv(c:Te):p7 c:=A82 c fun x _=>Abv x
termination_by SizeOf.sizeOf c
decreasing_by exact Te.lt_l ‹_›
def R1(e:El)(n:Int):Bool×Int:=Dn (Lg e.ks n) fun n=>Dn (Qx e.w n) fun n=>Dn (fs e.s n 0) fun n=>ft e.t n 0
def Ub(e:El)(n:Int):Bool×Int:=(!(R1 e n).1,(R1 e n).2)
def A83(e:El){S:Int->Ai}{p m:Nat}(hC:Ko S p m)(n:Int):HP 21 [As e,.ptr p 0] (S n) (.bool (R1 e n).1) (S (R1 e n).2):=by
 have key:R1 e n=Dn (Lg e.ks n) fun n=>Dn (Qx e.w n) fun n=>Dn (fs e.s n 0) fun n=>ft e.t n 0:=rfl;have a1:=hC.h.len;have a2:=hC.h.at0;have A8:=fun s=>hC.h.sc s m (Bm _);have hM:=hC.more [.var (Es e)] (fun k hk=>Ab);generalize R1 e n=z at key;refine Hf Bet (hl:=(by simp[a1])) fun Am Q hQ=>?_;clear Am;simp[As,A7 e,a1];have Nr:=sw e.ks hM n;generalize Lg e.ks n=r0 at key Nr;obtain⟨b0,m0⟩:=r0;refine C1 (by simpa[A7 e]using Nr) ?_;cases b0
 . rw[Dn,Ac Ab]at key;simp;exact hQ
 rw[Dn,Ae rfl]at key;simp only at key ⊢;simp[a2];have hk1:=As6 e.w hM m0;generalize Qx e.w m0=r1 at key hk1;obtain⟨b1,m1⟩:=r1;refine C1 (by simpa[A7 e]using hk1) ?_;cases b1
 . rw[Dn,Ac Ab]at key;simp;exact hQ
 rw[Dn,Ae rfl]at key;simp only at key ⊢;simp[a2];have hk2:=Abu e.s _ _ _ hM m1 0;generalize fs e.s m1 0=r2 at key hk2;obtain⟨b2,m2⟩:=r2;refine C1 (by simpa[A7 e,An,Av]using hk2) ?_;cases b2
 . rw[Dn,Ac Ab]at key;simp;exact hQ
 rw[Dn,Ae rfl]at key;simp only at key ⊢;simp[a2];have Q6:=Abv e.t _ _ _ hM m2 0;generalize ft e.t m2 0=r3 at key Q6;refine C1 (by simpa[A7 e,Ah,Aq]using Q6) ?_;simp;exact hQ
def A89{S:Int->Ai}{p m:Nat}(hC:Ko S p m)(x:El)(s:Int):HP 20 [As x,.ptr p 0] (S s) (.bool (Ub x s).1) (S (Ub x s).2):=by
 have a1:=hC.h.len;have a2:=hC.h.at0;have A8:=fun s=>hC.h.sc s m (Bm _);have hm:=A83 x (hC.more [.var (Es x)] (fun k hk=>Ab)) s;refine Hf Bfa (hl:=(by simp[a1])) fun Am Q hQ=>?_;clear Am;simp[As,a1];refine C1 (by simpa[As]using hm) ?_;simp;exact hQ (by simp[a1,A8,Ub])
def mt(ks:List Kd)(s:Sm)(l:List Cn)(c:Te)(all:List El):Bool:=(Dn (Lg ks 3000) fun n=>Dn (fs s n 0) fun n=>Dn (Qx l n) fun n=>Dn (ft c n 0) fun n=>(!(C4 Ub all n).1,(C4 Ub all n).2)).1
def A9a(ks:B6)(s:Sm)(l:Ax)(c:Te)(all:List El):Hc 5 [C8 ks s,.sl .none (l.map Ag),Ah c,.sl .none (all.map Es)] (.bool (mt ks s l c all)):=by
 have hC:Ko (fun n=>[.var (.sl .none (ks.map Ak)::Bx s),.var (Bi c),.var [.int .i64 n]]) 2 3:=
  ⟨⟨fun _=>rfl,fun n k _=>by simp[Be,A0,AV.inScope]⟩,Aa,fun _=>rfl,fun _ _=>rfl⟩
 rw[mt];obtain⟨z,key⟩:∃z,z=(Dn (Lg ks 3000) fun n=>Dn (fs s n 0) fun n=>Dn (Qx l n) fun n=>Dn (ft c n 0) fun n=>(!(C4 Ub all n).1,(C4 Ub all n).2)):=⟨_,rfl⟩;rw[<- key];refine Hg Be9 fun Q hQ=>?_;simp[C8,Ah,Aq c,Av s];have Nr:=sw ks hC 3000;generalize Lg ks 3000=r0 at key Nr;obtain⟨b0,m0⟩:=r0;refine C1 (by simpa[Aq c,Av s]using Nr) ?_;cases b0
 . rw[Dn,Ac Ab]at key;simp;exact hQ
 rw[Dn,Ae rfl]at key;simp only at key ⊢;simp;have hk1:=Abu s _ _ _ hC m0 0;generalize fs s m0 0=r1 at key hk1;obtain⟨b1,m1⟩:=r1;refine C1 (by simpa[An,Aq c,Av s]using hk1) ?_;cases b1
 . rw[Dn,Ac Ab]at key;simp;exact hQ
 rw[Dn,Ae rfl]at key;simp only at key ⊢;simp;have hk2:=As6 l hC m1;generalize Qx l m1=r2 at key hk2;obtain⟨b2,m2⟩:=r2;refine C1 (by simpa[Aq c,Av s]using hk2) ?_;cases b2
 . rw[Dn,Ac Ab]at key;simp;exact hQ
 rw[Dn,Ae rfl]at key;simp only at key ⊢;simp;have Q6:=Abv c _ _ _ hC m2 0;generalize ft c m2 0=r3 at key Q6;obtain⟨b3,m3⟩:=r3;refine C1 (by simpa[Ah,Aq c,Av s]using Q6) ?_;cases b3
 . rw[Dn,Ac Ab]at key;simp;exact hQ
 rw[Dn,Ae rfl]at key;simp only at key ⊢;simp;have hk4:=Bpe hC.h all Ub 20 [.ptr 2 0] (by simp[A0,AV.inScope]) (fun x _ s=>A89 hC x s) m3;generalize C4 Ub all m3=r4 at key hk4;refine C1 (by simpa[Aq c,Av s]using hk4) ?_;simp;exact hQ
