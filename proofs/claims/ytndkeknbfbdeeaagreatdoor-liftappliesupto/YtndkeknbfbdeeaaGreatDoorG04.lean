/- A part of the proof that LiftApplies answers true. -/
import Derived.Test.YtndkeknbfbdeeaaGreatDoorG03
import Derived.LoopN
import Derived.Test.YtndkeknbfbdeeaaGreatDoorProg
import Derived.KernelRfl
set_option linter.all false
set_option maxHeartbeats 4000000
set_option maxRecDepth 100000
namespace Go.Proofs.YtndkeknbfbdeeaaGreatDoor
open Go
variable {v:AV}{K:AV->Ai->Prop}{L ops:B8}{f:FuncId}{ws:List Ck}
section
inductive AC where
 |skip
 |region (ops:List AO)
 |draw (ops:List AO) (waits:List (List Nat))
 |seq (a b:AC)
 |cond (c:AR) (a b:AC)
 |block (id:Nat) (a:AC)
 |loop (a:AC)
 |exit (id:Nat)
 |ret
 |bad
def Du(P:Program):Code->Option AC
 | .skip=>some .skip
 | .region _ ops dr=>match I4 P ops ops.toList with |some l=>some (if dr=true then .draw l (Tk ops)else .region l)|none=>some .bad
 | .seq a b=>(Du P a).bind fun x=>(Du P b).map fun y=>.seq x y
 | .cond c a b=>(B9 c).bind fun d=>(Du P a).bind fun x=>(Du P b).map fun y=>.cond d x y
 | .block id a=>(Du P a).map (.block id)
 | .loop a=>(Du P a).map .loop
 | .exit id=>some (.exit id)
 | .ret=>some .ret
 |_=>some .bad
inductive AX where
 |normal
 |exit (id:Nat)
 |ret
def AX.to:AX->Exit
 | .normal=>.normal
 | .exit id=>.exit id
 | .ret=>.ret
def Sq[D6](P:Program)(Q:AX->List AV->List HB->Prop)(F:Addr->Prop)(g:Gh)(H:List HB)(w:World)(e:Exit)(a':Act)(w':World):Prop:=
 (∃ x t' H' F' g',e=AX.to x/\Q x t' H'/\Gk P F' g' H' w' t' a'/\Bn F g H w F' g' H' w')\/
 ∃v u H' F' g',e= .panic [{v:=u,recovered:=false}]/\R F' g' w' v u/\D6.pk v H'/\St F' g' H' w'/\a'.defers=[]/\Bn F g H w F' g' H' w'
def A9[D6](P:Program)(ac:AC)(t:List AV)(H:List HB)(Q:AX->List AV->List HB->Prop):Prop:=
 ∀c,Du P c=some ac->∀F g w a,Gk P F g H w t a->c.wp P (Sq P Q F g H w) a w
def Sq.ext[D6]{P:Program}{Q:AX->Ao->Ai->Prop}{F F':Addr->Prop}{g g':Gh}{H H':Ai}{w w':World}(hx:Bn F g H w F' g' H' w'){e:Exit}{a2:Act}{w2:World}(h:Sq P Q F' g' H' w' e a2 w2):Sq P Q F g H w e a2 w2:=by
 rcases h with⟨x,t,H2,F2,g2,h1,h2,h3,h4⟩|⟨v,u,H2,F2,g2,h1,h2,h3,h4,h5,h6⟩
 . exact .inl ⟨x,t,H2,F2,g2,h1,h2,h3,hx.trans h4⟩
 exact .inr ⟨v,u,H2,F2,g2,h1,h2,h3,h4,h5,hx.trans h6⟩
def Sq.pan[D6]{P:Program}{Q:AX->Ao->Ai->Prop}{F:Addr->Prop}{g:Gh}{H:Ai}{w:World} :Kt [] F g H w (Sq P Q F g H w):=
 fun F' g' H' _ _ v u h1 h2 h3 h4 h5=>.inr ⟨v,u,H',F',g',rfl,h1,h5,h2,h4,h3⟩
def A9.det{P:Program}{ac:AC}{t:Ao}{H:Ai}{Q:AX->Ao->Ai->Prop}(h:A9 P ac t H Q)(c:Code)(hc:Du P c=some ac)(F:Addr->Prop)(g:Gh)(w:World)(a:Act)(hs:Gk P F g H w t a):
 c.wp P (fun e a' w'=>∃x t' H' F' g',e=AX.to x/\Q x t' H'/\Gk P F' g' H' w' t' a'/\Bn F g H w F' g' H' w') a w:=
 wp_mono (h c hc F g w a hs) fun _ _ _ h=>by
  rcases h with h|⟨_,_,_,_,_,_,_,h,_⟩
  . exact h
  exact h.elim
section
variable {P:Program} {c:Code}
inductive To (P:Program):Code->AC->Prop where
 |skip:To P .skip .skip
 |region (id:Nat) (ops:Array Oper) (l:List AO) (h:I4 P ops ops.toList=some l):To P (.region id ops false) (.region l)
 |draw (id:Nat) (ops:Array Oper) (l:List AO) (h:I4 P ops ops.toList=some l):To P (.region id ops true) (.draw l (Tk ops))
 |seq (a b:Code) (x y:AC) (h1:Du P a=some x) (h2:Du P b=some y):To P (.seq a b) (.seq x y)
 |cond (e:Operand) (a b:Code) (d:AR) (x y:AC) (h0:B9 e=some d) (h1:Du P a=some x) (h2:Du P b=some y):To P (.cond e a b) (.cond d x y)
 |block (id:Nat) (a:Code) (x:AC) (h:Du P a=some x):To P (.block id a) (.block id x)
 |loop (a:Code) (x:AC) (h:Du P a=some x):To P (.loop a) (.loop x)
 |exit (id:Nat):To P (.exit id) (.exit id)
 |ret:To P .ret .ret
 |bad (c:Code):To P c .bad
def W4{ac:AC}(h:Du P c=some ac):To P c ac:=by
 cases c<;>simp only[Du,lr,Ef,Ay]at h
 . subst h;exact .skip
 . rename_i id ops dr;split at h
   . rename_i l h1;simp only[Ay]at h
     cases dr with
     |true=>simp only[Bp]at h;subst h;exact .draw id ops l h1
     |false=>simp only[Dp,Bq]at h;subst h;exact .region id ops l h1
   simp only[Ay]at h;subst h;exact .bad _
 . obtain⟨x,h1,y,h2,rfl⟩:=h;exact .seq _ _ _ _ h1 h2
 . obtain⟨d,h0,x,h1,y,h2,rfl⟩:=h;exact .cond _ _ _ _ _ _ h0 h1 h2
 . obtain⟨x,h1,rfl⟩:=h;exact .block _ _ _ h1
 . obtain⟨x,h1,rfl⟩:=h;exact .loop _ _ h1
 . subst h;exact .bad _
 . subst h;exact .exit _
 . subst h;exact .bad _
 . subst h;exact .bad _
 . subst h;exact .bad _
 . subst h;exact .ret
 subst h;exact .bad _
def A7c(h:Du P c=some .skip):c= .skip:=by cases W4 h;rfl
def A69{id:Nat}(h:Du P c=some (.exit id)):c= .exit id:=by cases W4 h;rfl
def A7b(h:Du P c=some .ret):c= .ret:=by cases W4 h;rfl
def si{x y:AC}(h:Du P c=some (.seq x y)):∃a b,c= .seq a b/\Du P a=some x/\Du P b=some y:=by
 cases W4 h;exact⟨_,_,rfl,by assumption,by assumption⟩
def A68{d:AR}{x y:AC}(h:Du P c=some (.cond d x y)):∃e a b,c= .cond e a b/\B9 e=some d/\Du P a=some x/\Du P b=some y:=by
 cases W4 h;exact⟨_,_,_,rfl,by assumption,by assumption,by assumption⟩
def A67{id:Nat}{x:AC}(h:Du P c=some (.block id x)):∃a,c= .block id a/\Du P a=some x:=by
 cases W4 h;exact⟨_,rfl,by assumption⟩
def A7a{x:AC}(h:Du P c=some (.loop x)):∃a,c= .loop a/\Du P a=some x:=by
 cases W4 h;exact⟨_,rfl,by assumption⟩
def sg{l:B8}(h:Du P c=some (.region l)):∃id ops,c= .region id ops false/\I4 P ops ops.toList=some l:=by
 cases W4 h;exact⟨_,_,rfl,by assumption⟩
def Abi{l:B8}(h:Du P c=some (.draw l ws)):∃id ops,c= .region id ops true/\I4 P ops ops.toList=some l/\ws=Tk ops:=by
 cases W4 h;exact⟨_,_,rfl,by assumption,rfl⟩
def Az7{Q Q':Exit->Act->World->Prop}(hq:∀e a w,Q e a w->Q' e a w):∀(n:Nat) (a:Act) (w:World),Code.rounds P c Q n a w->Code.rounds P c Q' n a w
 |0,_,_,h=>h
 |n+1,a,w,h=>by
  rw[rounds_succ]at h ⊢;refine wp_mono h fun e a' w' he=>?_;cases e<;>simp only[Exit.then]at he ⊢<;>first |exact Az7 hq n _ _ he|exact hq _ _ _ he
end
section
variable [D6] {P:Program} {t:List AV} {H:List HB} {Q:AX->List AV->List HB->Prop}
def Sq.mono{Q':AX->Ao->Ai->Prop}(hq:∀x t H,Q x t H->Q' x t H){F:Addr->Prop}{g:Gh}{w:World}{e:Exit}{a':Act}{w':World}(h:Sq P Q F g H w e a' w'):Sq P Q' F g H w e a' w':=by
 rcases h with⟨x,t,H2,F2,g2,h1,h2,h3⟩|h
 . exact .inl ⟨x,t,H2,F2,g2,h1,hq _ _ _ h2,h3⟩
 exact .inr h
def A9.mono{ac:AC}{Q':AX->Ao->Ai->Prop}(h:A9 P ac t H Q)(hq:∀x t H,Q x t H->Q' x t H):A9 P ac t H Q':=
 fun c hc F g w a hs=>wp_mono (h c hc F g w a hs) fun _ _ _ h=>h.mono hq
def A9.skip(h:Q .normal t H):A9 P .skip t H Q:=by
 intro c hc F g w a hs;rw[A7c hc];exact wp_skip (.inl ⟨.normal,t,H,F,g,rfl,h,hs,Bn.refl _ _ _ _⟩)
def A9.exit{id:Nat}(h:Q (.exit id) t H):A9 P (.exit id) t H Q:=by
 intro c hc F g w a hs;rw[A69 hc];exact wp_exit (.inl ⟨.exit _,t,H,F,g,rfl,h,hs,Bn.refl _ _ _ _⟩)
def A9.ret(h:Q .ret t H):A9 P .ret t H Q:=by
 intro c hc F g w a hs;rw[A7b hc];exact wp_ret (.inl ⟨.ret,t,H,F,g,rfl,h,hs,Bn.refl _ _ _ _⟩)
def Zo(N:List AV->List HB->Prop)(Q:AX->List AV->List HB->Prop):AX->List AV->List HB->Prop
 | .normal,t,H=>N t H
 |e,t,H=>Q e t H
def l7(id:Nat)(Q:AX->List AV->List HB->Prop):AX->List AV->List HB->Prop
 | .exit i,t,H=>if i=id then Q .normal t H else Q (.exit i) t H
 |e,t,H=>Q e t H
def A9.seq{x y:AC}(h:A9 P x t H (Zo (fun t' H'=>A9 P y t' H' Q) Q)):A9 P (.seq x y) t H Q:=by
 intro c hc F g w a hs;obtain⟨ca,cb,rfl,c1,c2⟩:=si hc;refine wp_seq (wp_mono (h _ c1 F g w a hs) ?_);rintro e a' w' (⟨x,t',H',F',g',rfl,hq,Cv,hx⟩|⟨v,u,H',F',g',rfl,h1,h2,h3,h4,h5⟩)
 . cases x with
   |normal=>
    simp only[AX.to,Exit.then]
    exact wp_mono (hq _ c2 F' g' w' a' Cv) fun _ _ _ h=>h.ext hx
   |exit id=>exact .inl ⟨.exit id,t',H',F',g',rfl,hq,Cv,hx⟩
   |ret=>exact .inl ⟨.ret,t',H',F',g',rfl,hq,Cv,hx⟩
 exact .inr ⟨v,u,H',F',g',rfl,h1,h2,h3,h4,h5⟩
def A9.cond{c:AR}{x y:AC}{b:Bool}(hb:Bh t c= .bool b)(h1:b=true->A9 P x t H Q)(h2:b=false->A9 P y t H Q):A9 P (.cond c x y) t H Q:=by
 intro c' hc F g w a hs;obtain⟨e,ca,cb,rfl,c0,c1,c2⟩:=A68 hc;have hr:=E2 hs.2.1 c0;rw[hb]at hr;refine Go.wp_cond (Wt hr) ?_
 cases b with
 |true=>exact h1 rfl _ c1 F g w a hs
 |false=>exact h2 rfl _ c2 F g w a hs
def A9.block{id:Nat}{x:AC}(h:A9 P x t H (l7 id Q)):A9 P (.block id x) t H Q:=by
 intro c hc F g w a hs;obtain⟨ca,rfl,hy⟩:=A67 hc;refine wp_block (wp_mono (h _ hy F g w a hs) ?_);rintro e a' w' (⟨x,t',H',F',g',rfl,hq,Cv,hx⟩|⟨v,u,H',F',g',rfl,h1,h2,h3,h4,h5⟩)
 . cases x with
   |normal=>exact .inl ⟨.normal,t',H',F',g',rfl,hq,Cv,hx⟩
   |exit i=>
    simp only[AX.to,Exit.inBlock];simp only[l7]at hq;split at hq
    . rename_i hi;rw[Ae hi]; exact .inl ⟨.normal,t',H',F',g',rfl,hq,Cv,hx⟩
    rename_i hi;rw[Ac hi]; exact .inl ⟨.exit i,t',H',F',g',rfl,hq,Cv,hx⟩
   |ret=>exact .inl ⟨.ret,t',H',F',g',rfl,hq,Cv,hx⟩
 exact .inr ⟨v,u,H',F',g',rfl,h1,h2,h3,h4,h5⟩
def A9.loop{x:AC}(I:Nat->Ao->Ai->Prop)(n:Nat)(h0:I n t H)
 (hr:∀n t H,I n t H->A9 P x t H (Zo (fun t' H'=>∃m,m<n/\I m t' H') Q)):A9 P (.loop x) t H Q:=by
 intro c hc F g w a hs;obtain⟨ca,rfl,hy⟩:=A7a hc;refine wp_loop_rounds (n+1) ?_
 have key:∀(n m:Nat) (t:Ao) (H:Ai) (F:Addr->Prop) (g:Gh) (w:World) (a:Act),m<n->I m t H->Gk P F g H w t a->
  Code.rounds P ca (Sq P Q F g H w) n a w:=by
  intro n
  induction n with
  |zero=>intro m _ _ _ _ _ _ h;omega
  |succ n ih=>
   intro m t H F g w a hm hI hs;rw[rounds_succ];refine wp_mono (hr m t H hI _ hy F g w a hs) ?_;rintro e a' w' (⟨x,t',H',F',g',rfl,hq,Cv,hx⟩|⟨v,u,H',F',g',rfl,h1,h2,h3,h4,h5⟩)
   . cases x with
     |normal=>
      obtain⟨m',H7,ap⟩:=hq;simp only[AX.to,Exit.then];have:=ih m' t' H' F' g' w' a' Aa ap Cv
      exact Az7 (fun e a2 w2 h=>h.ext hx) n _ _ this
     |exit i=>exact .inl ⟨.exit i,t',H',F',g',rfl,hq,Cv,hx⟩
     |ret=>exact .inl ⟨.ret,t',H',F',g',rfl,hq,Cv,hx⟩
   exact .inr ⟨v,u,H',F',g',rfl,h1,h2,h3,h4,h5⟩
 exact key (n+1) n t H F g w a Aa h0 hs
def A9.region(h:Jc P ops t H fun t' H'=>Q .normal t' H'):A9 P (.region ops) t H Q:=by
 intro c hc F g w a hs;obtain⟨id,os,rfl,hy⟩:=sg hc;refine wp_region ?_;have:=Aaz (P:=P) (ops:=os) (Q:=Sq P Q F g H w) os.toList ops 0 F g H w t a Ab hy hs h (fun F' g' H' w' t' a' q1 q2 q3=>.inl ⟨.normal,t',H',F',g',rfl,q3,q1,q2⟩) Sq.pan;simpa[y8]using this
def A9.draw{waits:List Ck}(hm:P.follows .mixedOrders=true)(fl:Nat->Bool)(np:Nat)(C:Ai->Prop)(hok:K4 ops waits fl np=true)(hC:C H)(h:Rz P fl np C 0 ops t H fun t' H'=>Q .normal t' H'):A9 P (.draw ops waits) t H Q:=by
 intro c hc F g w a hs;obtain⟨id,os,rfl,hy,rfl⟩:=Abi hc;refine wp_region_any hm ?_;obtain⟨Ik,Fd⟩:=hs.drew (w':={w with drawn:=w.drawn+1}) rfl ⟨rfl,rfl⟩;have hlen:=(Yp hy).1;simp only[Ou]at hlen;have h2:=Aao (P:=P) (K:=fun t' H'=>Q .normal t' H') hok ops 0 (Array.replicate os.size false) t H Ab Ab (by simp[hlen]) (fun j hj=>by simp[hlen,hj]) (.inl hC) h;rw[<- hlen]at h2;exact Aap hy rfl _ _ F g H _ t a Ik h2 (fun F' g' H' w' t' a' q1 q2 q3=>.inl ⟨.normal,t',H',F',g',rfl,q3,q1,Fd.trans q2⟩) (fun F' g' H' w' a' v u h1 h2 h3 h4 h5=>.inr ⟨v,u,H',F',g',rfl,h1,h5,h2,h4,Fd.trans h3⟩)
end
end
section
mutual
def AV.inScope(n:Nat):AV->Bool
 | .ptr b _=>decide (b<n)
 | .mapv b=>decide (b<n)
 | .val _=>true
 | .vsl b _=>decide (b<n)
 | .sl tok els=>(match tok with | .own t=>decide (t<n)|_=>true)&&D9 n els
 | .eptr cs=>A0 n cs
 | .fn _ a b=>A0 n a&&A0 n b
 | .iface _ v=>v.inScope n
 | .agg cs=>A0 n cs
 | .tup cs=>A0 n cs
 | .bool _=>true
 | .int _ _=>true
 | .str _=>true
 | .nilp=>true
 | .nilm=>true
 | .nilf=>true
 | .nili=>true
def A0(n:Nat):List AV->Bool
 | []=>true
 |x::xs=>x.inScope n&&A0 n xs
def D9(n:Nat):List (List AV)->Bool
 | []=>true
 |x::xs=>A0 n x&&D9 n xs
end
mutual
def AV.strip:AV->AV
 | .sl _ els=>.sl .none (Gn els)
 | .eptr cs=>.eptr (Ce cs)
 | .fn f a b=>.fn f (Ce a) (Ce b)
 | .iface t v=>.iface t v.strip
 | .agg cs=>.agg (Ce cs)
 | .tup cs=>.tup (Ce cs)
 | .bool b=>.bool b
 | .int k n=>.int k n
 | .str s=>.str s
 | .nilp=>.nilp
 | .nilm=>.nilm
 | .ptr b o=>.ptr b o
 | .mapv b=>.mapv b
 | .val v=>.val v
 | .vsl b n=>.vsl b n
 | .nilf=>.nilf
 | .nili=>.nili
def Ce:List AV->List AV
 | []=>[]
 |x::xs=>x.strip::Ce xs
def Gn:List (List AV)->List (List AV)
 | []=>[]
 |x::xs=>Ce x::Gn xs
end
def Bqg(x:AV):x.strip.isCell=x.isCell:=by cases x<;>simp[AV.strip,AV.isCell]
def A1d:∀(xs:List AV),(Ce xs).length=xs.length
 | []=>rfl
 |x::xs=>by simp[Ce,A1d xs]
def A1b:∀(xs:List (List AV)),(Gn xs).length=xs.length
 | []=>rfl
 |x::xs=>by simp[Gn,A1b xs]
section
variable {F:Addr->Prop} {g:Gh} {w:World}
mutual
def Ww:∀(x:AV) (v:Value),R F g w x v->R F g w x.strip v
 | .bool _,_,h=>h
 | .int _ _,_,h=>h
 | .str _,_,h=>h
 | .nilp,_,h=>h
 | .nilm,_,h=>h
 | .ptr _ _,_,h=>h
 | .mapv _,_,h=>h
 | .val _,_,h=>h
 | .vsl _ _,_,h=>h
 | .nilf,_,h=>h
 | .nili,_,h=>h
 | .eptr cs,v,h=>by
   simp only[AV.strip,R]at h ⊢;obtain⟨B,off,h1,h2⟩:=h
   exact⟨B,off,h1,Aak _ _ cs h2⟩
 | .sl tok els,v,h=>by
   simp only[AV.strip,R,A1b]at h ⊢;obtain⟨h0,h⟩:=h;refine⟨h0,?_⟩;rcases h with⟨h1,h2,_⟩|⟨B,off,sp,cap,k,h1,h2,hk,h3,h4⟩
   . exact .inl ⟨by rw[h1]; rfl,h2,Ab,Ab⟩
   exact .inr ⟨B,off,sp,cap,k,h1,h2,⟨hk.1,hk.2.imp (fun e=>by rw[e]; rfl) id⟩,Ahu _ _ _ els h3,trivial⟩
 | .fn f first cap,v,h=>by
   simp only[AV.strip,R]at h ⊢;obtain⟨a1,a2,h1,h2,h3⟩:=h
   exact⟨a1,a2,h1,Ws first _ h2,Ws cap _ h3⟩
 | .iface t x,v,h=>by
   simp only[AV.strip,R]at h ⊢;obtain⟨u,h1,h2⟩:=h
   exact⟨u,h1,Ww x u h2⟩
 | .agg cs,v,h=>by
   simp only[AV.strip,R]at h ⊢;obtain⟨a,h1,h2⟩:=h
   exact⟨a,h1,Ws cs _ h2⟩
 | .tup cs,v,h=>by
   simp only[AV.strip,R]at h ⊢;obtain⟨a,h1,h2⟩:=h;exact⟨a,h1,Ws cs _ h2⟩
def Ws:∀(x:List AV) (v:List Value),RL F g w x v->RL F g w (Ce x) v
 | [],_,h=>h
 |x::xs,v,h=>by
  simp only[Ce,RL]at h ⊢;obtain⟨u,r,h1,h2,h3⟩:=h;exact⟨u,r,h1,Ww x u h2,Ws xs r h3⟩
def Aak:∀(B off:Nat) (x:List AV),RM F g w B off x->RM F g w B off (Ce x)
 |_,_,[],h=>h
 |B,off,x::xs,h=>by
  simp only[Ce,RM]at h ⊢;obtain⟨⟨h0,v,h1,h2,h3⟩,h4⟩:=h;exact⟨⟨by rw[Bqg]; exact h0,v,h1,h2,Ww x v h3⟩,Aak _ _ xs h4⟩
def Ahu:∀(B off k:Nat) (x:List (List AV)),RE F g w B off k x->RE F g w B off k (Gn x)
 |_,_,_,[],h=>h
 |B,off,k,x::xs,h=>by
  simp only[Gn,RE]at h ⊢;obtain⟨h1,h2,h3⟩:=h;exact⟨by rw[A1d]; exact h1,Aak _ _ x h2,Ahu _ _ _ xs h3⟩
end
end
section
variable {F:Addr->Prop} {g g':Gh} {w:World} {n:Nat} (hg:∀b,b<n->g'.blk b=g.blk b/\g'.tk b=g.tk b)
include hg
mutual
def Mo:∀(x:AV) (v:Value),x.inScope n=true->R F g w x v->R F g' w x v
 | .bool _,_,_,h=>(by have _:=hg;exact h)
 | .int _ _,_,_,h=>h
 | .str _,_,_,h=>h
 | .nilp,_,_,h=>h
 | .nilm,_,_,h=>h
 | .nilf,_,_,h=>h
 | .nili,_,_,h=>h
 | .ptr b o,v,s,h=>by
   simp only[AV.inScope,Aw]at s;simp only[R]at h ⊢;obtain⟨B,h1,h2,h3⟩:=h
   exact⟨B,by rw[(hg b s).1]; exact h1,by rw[(hg b s).2]; exact h2,h3⟩
 | .mapv b,v,s,h=>by
   simp only[AV.inScope,Aw]at s;simp only[R]at h ⊢;obtain⟨B,h1,h2,h3⟩:=h
   exact⟨B,by rw[(hg b s).1]; exact h1,by rw[(hg b s).2]; exact h2,h3⟩
 | .val _,_,_,h=>h
 | .vsl b m,v,s,h=>by
   simp only[AV.inScope,Aw]at s;simp only[R]at h ⊢;obtain⟨B,cap,h1,h2,h3⟩:=h
   exact⟨B,cap,by rw[(hg b s).1]; exact h1,by rw[(hg b s).2]; exact h2,h3⟩
 | .eptr cs,v,s,h=>by
   simp only[AV.inScope]at s;simp only[R]at h ⊢;obtain⟨B,off,h1,h2⟩:=h
   exact⟨B,off,h1,Aaj _ _ cs s h2⟩
 | .sl tok els,v,s,h=>by
   simp only[AV.inScope,Bb]at s;simp only[R]at h ⊢;obtain⟨h0,h⟩:=h;refine⟨h0,?_⟩;rcases h with h|⟨B,off,sp,cap,k,h1,h2,hk,h3,h4⟩
   . exact .inl h
   refine .inr ⟨B,off,sp,cap,k,h1,h2,hk,Aht _ _ _ els s.2 h3,?_⟩
   cases tok with
   |own t=>
    have st:t<n:=by simpa using s.1
    obtain⟨m,c,q1,q2,q3⟩:=h4
    exact⟨m,c,by rw[(hg t st).2]; exact q1,q2,fun e=>by rw[(hg t st).1]; exact q3 e⟩
   |_=>exact h4
 | .fn f first cap,v,s,h=>by
   simp only[AV.inScope,Bb]at s;simp only[R]at h ⊢;obtain⟨a1,a2,h1,h2,h3⟩:=h
   exact⟨a1,a2,h1,N7 first _ s.1 h2,N7 cap _ s.2 h3⟩
 | .iface t x,v,s,h=>by
   simp only[AV.inScope]at s;simp only[R]at h ⊢;obtain⟨u,h1,h2⟩:=h
   exact⟨u,h1,Mo x u s h2⟩
 | .agg cs,v,s,h=>by
   simp only[AV.inScope]at s;simp only[R]at h ⊢;obtain⟨a,h1,h2⟩:=h
   exact⟨a,h1,N7 cs _ s h2⟩
 | .tup cs,v,s,h=>by
   simp only[AV.inScope]at s;simp only[R]at h ⊢;obtain⟨a,h1,h2⟩:=h;exact⟨a,h1,N7 cs _ s h2⟩
def N7:∀(x:List AV) (v:List Value),A0 n x=true->RL F g w x v->RL F g' w x v
 | [],_,_,h=>(by have _:=hg;exact h)
 |x::xs,v,s,h=>by
  simp only[A0,Bb]at s;simp only[RL]at h ⊢;obtain⟨u,r,h1,h2,h3⟩:=h;exact⟨u,r,h1,Mo x u s.1 h2,N7 xs r s.2 h3⟩
def Aaj:∀(B off:Nat) (x:List AV),A0 n x=true->RM F g w B off x->RM F g' w B off x
 |_,_,[],_,h=>(by have _:=hg;exact h)
 |B,off,x::xs,s,h=>by
  simp only[A0,Bb]at s;simp only[RM]at h ⊢;obtain⟨⟨h0,v,h1,h2,h3⟩,h4⟩:=h;exact⟨⟨h0,v,h1,h2,Mo x v s.1 h3⟩,Aaj _ _ xs s.2 h4⟩
def Aht:∀(B off k:Nat) (x:List (List AV)),D9 n x=true->RE F g w B off k x->RE F g' w B off k x
 |_,_,_,[],_,h=>(by have _:=hg;exact h)
 |B,off,k,x::xs,s,h=>by
  simp only[D9,Bb]at s;simp only[RE]at h ⊢;obtain⟨h1,h2,h3⟩:=h;exact⟨h1,Aaj _ _ x s.1 h2,Aht _ _ _ xs s.2 h3⟩
end
end
def AV.le(x y:AV):Prop:=∀F g w v,R F g w x v->R F g w y v
inductive Gp where
 |tmp (t:Nat)
 |cell (t:Nat) (ag:Bool) (n:Nat)
def Qt(P:Program):List ResultVar->Option (List Gp)
 | []=>some []
 | .tmp t::r=>(Qt P r).map (.tmp t :: ·)
 | .cell a ty::r=>(Zf P ty).bind fun ag=>(P.info? ty).bind fun i=>(Qt P r).bind fun l=>if 0<i.size/\(ag=true\/i.size=1)then some (.cell a ag i.size::l)else none
def Js(t:List AV)(H:List HB):Gp->Option AV
 | .tmp i=>some (t.getD i .undef)
 | .cell i ag n=>match t.getD i .undef with
   | .ptr b off=>match H[b]? with
     |some (.var cs)=>Ni ag n (cs.drop off)
     |_=>none
   |_=>none
def Ic(t:List AV)(H:List HB):List Gp->Option (List AV)
 | []=>some []
 |r::rs=>(Js t H r).bind fun v=>(Ic t H rs).map (v :: ·)
def I2(t:List AV)(H:List HB)(rs:List Gp):Option AV:=
 (Ic t H rs).map fun vs=>match vs with | [v]=>v|vs=>.tup vs
section
variable {P:Program} {F:Addr->Prop} {g:Gh} {H:List HB} {w:World} {t:List AV} {a:Act}
def om(tmps:Array Value):ResultVar->Sem Value
 | .tmp t=>pure (tmps.getD t undef)
 | .cell p ty=>do loadVar ty (<- asAddr (tmps.getD p undef))
def Bn1(fn:Func)(tmps:Array Value):results fn tmps=(do let vs <-fn.results.mapM (om tmps); pure (if h:vs.size=1 then vs[0]else .tuple vs)):=by
 unfold results;congr 1
def Boc(x:Addr):(asAddr (.pointer (some x))).run P w= .ok x w:=rfl
def Afb(hs:Gk P F g H w t a):∀{l:List ResultVar} {rs:List Gp} {vs:Ao},Qt P l=some rs->Ic t H rs=some vs->
 ∃us:Fm,(l.mapM (om a.tmps)).run P w= .ok us w/\RL F g w vs us
 | [],rs,vs,hc,h=>by
   simp only[Qt,Ay]at hc;subst hc;simp only[Ic,Ay]at h;subst h
   exact⟨[],Ab,by simp[RL]⟩
 | .tmp i::l,rs,vs,hc,h=>by
   simp only[Qt,Ef]at hc;obtain⟨rs',P5,rfl⟩:=hc;simp only[Ic,Js,Option.bind_some,Ef]at h;obtain⟨vs',h',rfl⟩:=h;obtain⟨us,e1,e2⟩:=Afb hs P5 h';refine⟨a.tmps.getD i undef::us,?_,?_⟩
   . simp only[yk,om,Sem.run_bind,Sem.run_pure,Result.andThen_ok,e1]
   simp only[RL];have:=Ab5 hs.2.1 i;refine⟨_,us,rfl,?_,e2⟩
   simpa using this
 | .cell i ty::l,rs,vs,hc,h=>by
   simp only[Qt,lr]at hc;obtain⟨ag,h1,inf,h2,rs',P5,hc⟩:=hc;split at hc
   case isFalse=>cases hc
   simp only[Ay]at hc;subst hc;simp only[Ic,lr,Ef]at h;obtain⟨v,hv,vs',h',rfl⟩:=h;obtain⟨us,e1,e2⟩:=Afb hs P5 h';simp only[Js]at hv;have hg:=Ab5 hs.2.1 i;split at hv
   . rename_i b off hb;rw[hb]at hg;obtain⟨B,q1,q2,q3⟩:=Nm hg;split at hv
     . rename_i cs B7;obtain⟨B',ws,e,p1,p2,p3,p4,p5⟩:=hs.1.var b cs B7;rw[q1]at p1;cases p1;have Kz:=Zz p4 off;obtain⟨k1,k2,k3⟩:=Afz hv Kz
       have Ih:∀(j:Nat) (u:Value),(ws.toList.drop off)[j]? =some u->w.cell? ⟨B,off+j,none⟩=some u:=fun j u hj=>by
        simp only[World.cell?,p3,Oz,Dp,Bq];rw[ei]at hj;simpa using hj
       obtain⟨l1,l2⟩:=A0e h1 h2 Ih;rw[H5 Kz]at k1;have Mf:a.tmps.getD i undef= .pointer (some ⟨B,off,none⟩):=by simpa using q3
       have load:∃u,(loadVar ty ⟨B,off,none⟩).run P w= .ok u w/\R F g w v u:=by
        cases ag with
        |true=>exact⟨_,l1 rfl k1,k2 rfl⟩
        |false=>obtain⟨u,r,x1,x2⟩:=k3 rfl;exact⟨u,l2 rfl u r x1,x2⟩
       obtain⟨u,x1,x2⟩:=load;refine⟨u::us,?_,by simp only[RL]; exact⟨u,us,rfl,x2,e2⟩⟩;simp only[yk,om,Sem.run_bind,Mf,Boc,Sem.run_pure,Result.andThen_ok,x1,e1]
     cases hv
   cases hv
def ko(hs:Gk P F g H w t a){fn:Func}{rs:List Gp}(hc:Qt P fn.results.toList=some rs)(h:I2 t H rs=some v):∃u,(results fn a.tmps).run P w= .ok u w/\R F g w v u:=by
 simp only[I2,Ef]at h;obtain⟨vs,h1,h2⟩:=h;obtain⟨us,e1,e2⟩:=Afb hs hc h1
 have Xr:(fn.results.mapM (om a.tmps)).run P w= .ok us.toArray w:=by
  rw[A22];simp only[Sem.run_map,e1,Result.andThen_ok]
 refine⟨if h:us.toArray.size=1 then us.toArray[0]else .tuple us.toArray,?_,?_⟩
 . rw[Bn1];simp only[Sem.run_bind];rw[Xr];rfl
 cases us with
 |nil=>
  have:vs=[]:=by cases vs with |nil=>rfl|cons _ _=>simp[RL]at e2
  subst this;subst h2
  simp only[R]; exact⟨#[],Ab,by simp[RL]⟩
 |cons u us=>
  cases vs with
  |nil=>simp[RL]at e2
  |cons x xs=>
   simp only[RL]at e2;obtain⟨u',r',e,hx,hr⟩:=e2;cases e
   cases us with
   |nil=>
    have:xs=[]:=by cases xs with |nil=>rfl|cons _ _=>simp[RL]at hr
    subst this;subst h2
    simpa using hx
   |cons u2 us=>
    have Ra:∃y ys,xs=y::ys:=by cases xs with |nil=>simp[RL]at hr|cons y ys=>exact⟨y,ys,rfl⟩
    obtain⟨y,ys,rfl⟩:=Ra;subst h2;simp only[R];refine⟨(u::u2::us).toArray,Ab,?_⟩;simp only[RL];simp only[RL]at hr;exact⟨u,u2::us,rfl,hx,hr⟩
end
structure Nk (P:Program) (f:FuncId) (ac:AC) (ntmps:Nat) (rs:List Gp):Prop where
 en:Qw P f=true
 fn:∃fn c,P.funcs[f]? =some fn/\fn.body=some c/\Du P c=some ac/\fn.ntmps=ntmps/\Qt P fn.results.toList=some rs
def sx(P:Program)(f:FuncId):Option (AC×Nat×List Gp):=
 if Qw P f=true then(P.funcs[f]?).bind fun fn=>fn.body.bind fun c=>(Du P c).bind fun ac=>(Qt P fn.results.toList).map fun rs=>(ac,fn.ntmps,rs)else none
def Nk.of{P:Program}{ac:AC}{n:Nat}{rs:List Gp}(h:sx P f=some (ac,n,rs)):Nk P f ac n rs:=by
 unfold sx at h;split at h
 . rename_i he;simp only[lr,Ef,Cg]at h;obtain⟨fn,h1,c,h2,ac',h3,rs',h4,rfl,rfl,rfl⟩:=h;exact⟨he,fn,c,h1,h2,h3,rfl,h4⟩
 cases h
def start(args:List AV)(n:Nat):List AV:=args++List.replicate (n-args.length) .undef
def Be(n:Nat):List HB->Bool
 | []=>true
 | .var cs::r=>A0 n cs&&Be n r
 | .tvar _ cs::r=>A0 n cs&&Be n r
 | .tok _ _ _::r=>Be n r
 | .mp _::r=>Be n r
def Gl(rs:List Gp)(res:AV)(H0:List HB)(x:AX)(t:List AV)(H:List HB):Prop:=
 (x= .normal\/x= .ret)/\(∃ v,I2 t H rs=some v/\v.strip=res)/\(∃ L,H=H0++L)/\res.inScope H0.length=true/\Be H0.length H0=true
def ku{n:Nat} :∀{H:List HB},Be n H=true->∀(b:Nat) cs,H[b]? =some (.var cs)->A0 n cs=true
 | [],_,b,cs,h=>by simp at h
 | .var c::r,s,b,cs,h=>by
   simp only[Be,Bb]at s
   cases b with
   |zero=>simp at h;subst h;exact s.1
   |succ b=>simp at h;exact ku s.2 b cs h
 | .tvar _ c::r,s,b,cs,h=>by
   simp only[Be,Bb]at s
   cases b with
   |zero=>simp at h
   |succ b=>simp at h;exact ku s.2 b cs h
 | .tok _ _ _::r,s,b,cs,h=>by
   simp only[Be]at s
   cases b with
   |zero=>simp at h
   |succ b=>simp at h;exact ku s b cs h
 | .mp _::r,s,b,cs,h=>by
   simp only[Be]at s
   cases b with
   |zero=>simp at h
   |succ b=>simp at h;exact ku s b cs h
def kw{n:Nat} :∀{H:List HB},Be n H=true->∀(b:Nat) e cs,H[b]? =some (.tvar e cs)->A0 n cs=true
 | [],_,b,e,cs,h=>by simp at h
 | .var c::r,s,b,e,cs,h=>by
   simp only[Be,Bb]at s
   cases b with
   |zero=>simp at h
   |succ b=>simp at h;exact kw s.2 b e cs h
 | .tvar _ c::r,s,b,e,cs,h=>by
   simp only[Be,Bb]at s
   cases b with
   |zero=>simp at h;rw[<- h.2]; exact s.1
   |succ b=>simp at h;exact kw s.2 b e cs h
 | .tok _ _ _::r,s,b,e,cs,h=>by
   simp only[Be]at s
   cases b with
   |zero=>simp at h
   |succ b=>simp at h;exact kw s b e cs h
 | .mp _::r,s,b,e,cs,h=>by
   simp only[Be]at s
   cases b with
   |zero=>simp at h
   |succ b=>simp at h;exact kw s b e cs h
def St.forget{F F':Addr->Prop}{g g':Gh}{H0 H L:Ai}{w w':World}(hs:St F' g' (H0++L) w')(hx:Bn F g H w F' g' (H0++L) w')(hl:H.length<=H0.length)(A8:Be H0.length H0=true)(az:∀b,H.length<=b->g.blk b=none/\g.tk b=none):
 ∃g2,(∀ b,b<H0.length->g2.blk b=g'.blk b/\g2.tk b=g'.tk b)/\St F' g2 H0 w'/\Bn F g H w F' g2 H0 w':=by
 let g2:Gh:=⟨fun b=>if b<H0.length then g'.blk b else none,fun b=>if b<H0.length then g'.tk b else none⟩;have e1:∀b,b<H0.length->g2.blk b=g'.blk b/\g2.tk b=g'.tk b:=fun b hb=>⟨Ae hb,Ae hb⟩;have e2:∀b,¬b<H0.length->g2.blk b=none/\g2.tk b=none:=fun b hb=>⟨Ac hb,Ac hb⟩
 have e3:∀b B,g2.blk b=some B->b<H0.length/\g'.blk b=some B:=fun b B h=>by
  by_cases hb:b<H0.length
  . exact⟨hb,by rw[<- (e1 b hb).1]; exact h⟩
  rw[(e2 b hb).1]at h;cases h
 refine⟨g2,e1,⟨hs.live,fun b hb=>e2 b Aa,fun b b' B h h'=>hs.inj b b' B (e3 b B h).2 (e3 b' B h').2,fun b cs hb=>?_,fun t n k ty ht=>?_,hs.spots,fun b e cs hb=>?_,fun b ks hb=>?_⟩,⟨hx.sub,hx.keep,⟨fun b B h1 h2=>?_,fun t m c h=>?_⟩,hx.size,hx.frame,hx.new,fun b B hb h=>?_,hl,hx.io⟩⟩
 . have D8:=(List.getElem?_eq_some_iff.1 hb).1;obtain⟨B,vs,e,q1,q2,q3,q4,q5⟩:=hs.var b cs (by rw[D5 D8]; exact hb);exact⟨B,vs,e,(e1 b D8).1.trans q1,(e1 b D8).2.trans q2,q3,N7 e1 _ _ (ku A8 b cs hb) q4,q5⟩
 . have D8:=(List.getElem?_eq_some_iff.1 ht).1;obtain⟨B,cap,vs,e,fr,q1,q2,q3⟩:=hs.tok t n k _ (by rw[D5 D8]; exact ht);exact⟨B,cap,vs,e,fr,(e1 t D8).1.trans q1,(e1 t D8).2.trans q2,q3⟩
 . have D8:=(List.getElem?_eq_some_iff.1 hb).1;obtain⟨B,vs,q1,q2,q3,q4,q5⟩:=hs.tvar b e cs (by rw[D5 D8]; exact hb);exact⟨B,vs,(e1 b D8).1.trans q1,(e1 b D8).2.trans q2,q3,N7 e1 _ _ (kw A8 b e cs hb) q4,q5⟩
 . have D8:=(List.getElem?_eq_some_iff.1 hb).1;rcases hs.mp b _ (by rw[D5 D8]; exact hb)with⟨q0,q1,q2⟩|⟨B,es,ck,q1,q2,q3⟩
   . exact .inl ⟨q0,(e1 b D8).1.trans q1,(e1 b D8).2.trans q2⟩
   exact .inr ⟨B,es,ck,(e1 b D8).1.trans q1,(e1 b D8).2.trans q2,q3⟩
 . have hb:b<H.length:=by
    rcases E8 b H.length with h|h
    . exact h
    rw[(az b h).1]at h1;cases h1
   obtain⟨p,q⟩:=hx.gh.blk b B h1 h2;have:=e1 b Aa;exact⟨this.1.trans p,this.2.trans q⟩
 . have hb:t<H.length:=by
    rcases E8 t H.length with h'|h'
    . exact h'
    rw[(az t h').2]at h;cases h
   obtain⟨m',c',p,q,r⟩:=hx.gh.tk t m c h;have:=e1 t Aa;exact⟨m',c',this.2.trans p,q,fun e=>⟨(r e).1,this.1.trans (r e).2⟩⟩
 obtain⟨_,h'⟩:=e3 b B h;exact hx.blks b B (by simp;omega) h'
def C7.of{P:Program}{ac:AC}{n:Nat}{rs:List Gp}(hf:Nk P f ac n rs){args:Ao}{H H':Ai}{res:AV}(hl:H.length<=H'.length)(h:A9 P ac (start args n) H (Gl rs res H')):C7 P f args H res H':=by
 refine⟨hf.en,fun F g w vs hG hs hr=>?_⟩;obtain⟨fn,c,h1,h2,h3,h4,h5⟩:=hf.fn;refine calls_of_wp h1 h2 ?_;have hlen:=H5 hr
 have Ur:Tm F g w (start args n) {tmps:=vs.toArray++Array.replicate (fn.ntmps-vs.toArray.size) undef,defers:=[]}:=by
  show RL F g w _ _;simp only[start,Wi,Zr,Tu,h4,hlen];exact Ld hr (Wr Hk _)
 refine wp_mono (h.det c h3 F g w _ ⟨hs,Ur,rfl,hG⟩) ?_;rintro e a' w' ⟨x,t',H2,F',g',rfl,⟨hx,⟨v,hv,hle⟩,⟨L,rfl⟩,A8,nl⟩,Cv,Xo⟩;obtain⟨u,hu,Uq⟩:=ko Cv h5 hv;obtain⟨g2,e1,e2,e3⟩:=St.forget Cv.1 Xo hl nl hs.beyond;have Hr:=Mo e1 res u A8 (hle▸Ww v u Uq);rcases hx with rfl|rfl
 . exact⟨Cv.2.2.1,u,hu,u,F',g2,rfl,Hr,e2,e3⟩
 exact⟨Cv.2.2.1,u,hu,u,F',g2,rfl,Hr,e2,e3⟩
def C7.args{P:Program}{args args':Ao}{H H':Ai}{res:AV}(h:C7 P f args H res H')(he:Ce args'=args):C7 P f args' H res H':=
 ⟨h.1,fun F g w vs hG hs hr=>h.2 F g w vs hG hs (he▸Ws _ _ hr)⟩
def C7.lift{P:Program}{args:Ao}{res:AV}(h:C7 P f args [] res [])(ha:A0 0 args=true)(hr:res.inScope 0=true)(H:Ai):C7 P f args H res H:=by
 refine⟨h.1,fun F g w vs hG hs Kz=>?_⟩;let g0:Gh:=⟨fun _=>none,fun _=>none⟩;have Ij:St F g0 [] w:=⟨hs.live,fun _ _=>⟨rfl,rfl⟩,fun _ _ _ h=>(by cases h),fun b cs h=>(by simp at h),fun t n k ty h=>(by simp at h),hs.spots,fun b e cs h=>(by simp at h),fun b ks h=>(by simp at h)⟩;refine(h.2 F g0 w vs hG Ij (N7 (n:=0) (fun b hb=>absurd hb (Jr b)) _ _ ha Kz)).mono ?_;rintro e w' ⟨v,F',g',rfl,hv,Cv,hx⟩;have hfr:∀B,B<w.heap.size->w'.heap[B]? =w.heap[B]?:=fun B hB=>hx.frame B hB fun b hb=>absurd hb (Jr b);have hK:Fi F g w F' g w':=⟨hx.sub,hx.keep,Gh.le_refl g⟩
 have Oi:∀a,F' a->F a\/w.heap.size<=a.block:=fun a ha=>by
  rcases hx.new a ha with h|h|⟨t,ht,_⟩
  . exact .inl h
  . exact .inr h
  exact absurd ht (Jr t)
 refine⟨v,F',g,rfl,Mo (n:=0) (fun b hb=>absurd hb (Jr b)) _ _ hr hv,⟨Cv.live,hs.beyond,hs.inj,fun b cs hb=>?_,fun t n k ty ht=>?_,Cv.spots,fun b e cs hb=>?_,fun b ks hb=>?_⟩,⟨hx.sub,hx.keep,Gh.le_refl g,hx.size,fun B hB _=>hfr B hB,fun a ha=>(Oi a ha).imp id .inl,fun b B hb h=>.inl ⟨hb,h⟩,Bm _,hx.io⟩⟩
 . obtain⟨B,us,e,q1,q2,q3,q4,q5⟩:=hs.var b cs hb
   exact⟨B,us,e,q1,q2,(hfr B (D1 q3)).trans q3,RL.mono hK _ _ q4,fun off h=>by
    rcases Oi _ h with h|h
    . exact q5 off h
    have:=D1 q3;simp only at h;omega⟩
 . obtain⟨B,cap,us,e,fr,q1,q2,q3,q4,q5,q6⟩:=hs.tok t n k _ ht
   exact⟨B,cap,us,e,fr,q1,q2,(hfr B (D1 q3)).trans q3,q4,q5,fun off ho h=>by
    rcases Oi _ h with h|h
    . exact q6 off ho h
    have:=D1 q3;simp only at h;omega⟩
 . obtain⟨B,us,q1,q2,q3,q4,q5⟩:=hs.tvar b e cs hb
   exact⟨B,us,q1,q2,(hfr B (D1 q3)).trans q3,RL.mono hK _ _ q4,fun off h=>by
    rcases Oi _ h with h|h
    . exact q5 off h
    have:=D1 q3;simp only at h;omega⟩
 rcases hs.mp b _ hb with q|⟨B,es,ck,q1,q2,q3,q4⟩
 . exact .inl q
 exact .inr ⟨B,es,ck,q1,q2,(hfr B (D1 q3)).trans q3,q4⟩
end
section
section
variable [D6]
def Si(b:Bool)(x y:Prop):Prop:=if b=true then x else y
def jn(x y:Prop):Si true x y=x:=rfl
def Vz(x y:Prop):Si false x y=y:=rfl
def ur{b:Bool}{x y:Prop}(h:Si b x y):(b=true/\x)\/(b=false/\y):=by
 cases b
 . exact .inr ⟨rfl,h⟩
 exact .inl ⟨rfl,h⟩
def Ary(v:AV)(x y:Prop):Prop:=match v with | .bool b=>Si b x y|_=>False
def Yo(P:Program)(f:AV)(args:List AV)(H:List HB)(K:AV->List HB->Prop):Prop:=
 match f with
 | .fn (.func n) a b=>∃v H',Yc P n (a++args++b) H v H'/\K v H'
 |_=>False
def rx(P:Program)(f:AV)(args:List AV)(H:List HB):Prop:=
 match f with
 | .fn (.func n) a b=>∃H',Yc P n (a++args++b) H .no H'
 |_=>False
def j9(x:Option (AV×List HB))(K:AV->List HB->Prop):Prop:=
 match x with
 |some (v,H)=>K v H
 |none=>False
def db(P:Program)(op:Ek)(t:List AV)(H:List HB)(K:AV->List HB->Prop):Prop:=
 match op with
 | .call f args=>Yo P (Bh t f) (args.map (Bh t)) H K\/rx P (Bh t f) (args.map (Bh t)) H
 |op=>j9 (B4 op (Bh t) H) K
def Yl(P:Program):List AO->List AV->List HB->(List AV->List HB->Prop)->Prop
 | [],t,H,K=>K t H
 |o::r,t,H,K=>Si (It t o.guard) (db P o.op t H fun v H'=>Yl P r (Cd t o.dst v) H' K) (Yl P r (Cd t o.dst .undef) H K)
def Zj{o:Option (AV×Ai)}(h:j9 o K):∃v H',o=some (v,H')/\K v H':=by
 cases o with
 |none=>exact h.elim
 |some p=>exact⟨p.1,p.2,rfl,h⟩
def Are{P:Program}{f:AR}{args:List AR}{t:Ao}{H:Ai}(h:Yo P (Bh t f) (args.map (Bh t)) H K):∃v H',E1 P (.call f args) (Bh t) H v H'/\K v H':=by
 unfold Yo at h;split at h
 . rename_i n a b hf;obtain⟨v,H',h1,h2⟩:=h;exact⟨v,H',⟨n,a,b,hf,h1⟩,h2⟩
 exact h.elim
def A6p{P:Program}{f:AR}{args:List AR}{t:Ao}{H:Ai}(h:rx P (Bh t f) (args.map (Bh t)) H):∃H',E1 P (.call f args) (Bh t) H .no H':=by
 unfold rx at h;split at h
 . rename_i n a b hf;obtain⟨H',h1⟩:=h;exact⟨H',n,a,b,hf,h1⟩
 exact h.elim
def Bkn{P:Program}{op:Ek}{t:Ao}{H:Ai}(h:db P op t H K):(∃ v H',E1 P op (Bh t) H v H'/\K v H')\/∃H',E1 P op (Bh t) H .no H':=by
 cases op<;>simp only[db]at h<;>first
  |exact h.imp Are A6p
  |exact .inl (Zj h)
def Sw{P:Program} :∀{l:List AO} {t:List AV} {H:List HB} {K:List AV->List HB->Prop},Yl P l t H K->Jc P l t H K
 | [],_,_,_,h=>h
 |o::r,t,H,K,h=>by
  simp only[Yl]at h;simp only[Jc];rcases ur h with⟨hg,h⟩|⟨hg,h⟩
  . rcases Bkn h with⟨v,H',h1,h2⟩|⟨H',h1⟩
    . exact .inl ⟨hg,v,H',h1,Sw h2⟩
    exact .inr (.inr ⟨hg,H',h1⟩)
  exact .inr (.inl ⟨hg,Sw h⟩)
def b9:Ek->Bool
 | .store _ _ _=>true
 |_=>false
def Rh:Ek->Bool
 | .store _ _ _ | .alloc _ | .box _ | .boxT _ _ | .append _ _ _ _ | .appendS _ _ _ | .mkmap | .mapset _ _=>false
 |_=>true
def Mj(l:List AO):Nat:=(l.takeWhile fun o=>!b9 o.op).length
def Ev(V:Nat->Bool)(H0 H:List HB):Prop:=∀b cs,V b=true->H0[b]? =some (.var cs)->H[b]? =some (.var cs)
def H6(l:List AO)(nq:List Nat)(k:Nat):Bool:=match l[k]? with |some o=>Rh o.op && !nq.contains k|none=>false
def optV(x:Option AV)(K:AV->Prop):Prop:=match x with |some v=>K v|none=>False
def V2(V:Nat->Bool)(H0:List HB)(ag:Bool)(n:Nat)(x:AV):Option AV:=
 match x with
 | .ptr b off=>if V b=true then match H0[b]? with
  |some (.var cs)=>Ni ag n (cs.drop off)
  |_=>none
  else none
 | .eptr cs=>Ni ag n cs
 |_=>none
def ka(P:Program)(V:Nat->Bool)(H0:List HB)(f:AV)(args:List AV)(K:AV->Prop):Prop:=
 match f with
 | .fn (.func n) a b=>∃v,(∀ H,Ev V H0 H->Yc P n (a++args++b) H v H)/\K v
 |_=>False
def Mb(P:Program)(V:Nat->Bool)(nq:Bool)(H0:List HB)(op:Ek)(t:List AV)(H:List HB)(K:AV->List HB->Prop):Prop:=
 match op with
 | .call f args=>Si nq (Yo P (Bh t f) (args.map (Bh t)) H fun v H'=>Ev V H0 H'/\K v H') (ka P V H0 (Bh t f) (args.map (Bh t)) fun v=>K v H)
 | .load ag n x=>Si nq (j9 (B4 (.load ag n x) (Bh t) H) K) (optV (V2 V H0 ag n (Bh t x)) fun v=>K v H)
 |op=>j9 (B4 op (Bh t) H) K
def Jv(P:Program)(V:Nat->Bool)(nq:List Nat)(H0:List HB):Nat->List AO->List AV->List HB->(List AV->List HB->Prop)->Prop
 |_,[],t,H,K=>K t H
 |k,o::r,t,H,K=>Si (It t o.guard) (Mb P V (nq.contains k) H0 o.op t H fun v H'=>Jv P V nq H0 (k+1) r (Cd t o.dst v) H' K) (Jv P V nq H0 (k+1) r (Cd t o.dst .undef) H K)
def wq{op:Ek}{ρ:AR->AV}{H H':Ai}(hq:Rh op=true)(hl:∀ag n x,op≠.load ag n x)(h:B4 op ρ H=some (v,H')):H'=H/\∀H2,B4 op ρ H2=some (v,H2):=by
 cases op<;>simp only[Rh,Dp]at hq<;>simp only[B4]at h ⊢
 case load=>exact absurd rfl (hl _ _ _)
 all_goals (repeat' (split at h))<;>first
  |(cases h;done)
  |(simp only[Ay,Cg]at h;obtain⟨rfl,rfl⟩:=h;exact⟨rfl,fun _=>by simp_all⟩)
  |(simp only[Ef,Cg]at h;obtain⟨z,hz,rfl,rfl⟩:=h;exact⟨rfl,fun _=>by simp_all⟩)
def E4{H L:Ai}{b:Nat}{cs:Ao}(h:H[b]? =some (.var cs)):(H++L)[b]? =some (.var cs):=by
 rw[D5 (List.getElem?_eq_some_iff.1 h).1]; exact h
def Au3{k:Nat}{e:TypeId}{tok:Dh}{els ys:List Ao}{H H':Ai}(h:Ey k e tok els ys H=some (v,H')){b:Nat}{cs:Ao}(hb:H[b]? =some (.var cs)):H'[b]? =some (.var cs):=by
 unfold Ey at h;split at h
 . cases tok with
   |own t=>
    simp only at h;split at h
    . rename_i n k' e' ht;split at h
      . simp only[Ay,Cg]at h;obtain⟨_,rfl⟩:=h;have:t≠b:=fun e=>by subst e;rw[hb]at ht;cases ht
        rw[Ia this]; exact hb
      cases h
    cases h
   |none=>cases h
   |nn=>cases h
   |lazy t=>
    cases ys with
    |nil=>simp only[Ay,Cg]at h;obtain⟨_,rfl⟩:=h;exact hb
    |cons y ys=>
     simp only at h;split at h
     . rename_i ks ht;split at h
       . simp only[Ay,Cg]at h;obtain⟨_,rfl⟩:=h;have:t≠b:=fun e=>by subst e;rw[hb]at ht;cases ht
         rw[Ia this]; exact hb
       cases h
     cases h
   |tight=>
    cases ys<;>simp only[Id,Ay,Cg]at h<;>obtain⟨_,rfl⟩:=h
    . exact hb
    exact E4 hb
   |nilT=>
    cases ys<;>simp only[Id,Ay,Cg]at h<;>obtain⟨_,rfl⟩:=h
    . exact hb
    exact E4 hb
 cases h
def Bap{op:Ek}{ρ:AR->AV}{H H':Ai}(hq:Rh op=false)(hs:b9 op=false)(h:B4 op ρ H=some (v,H')){b:Nat}{cs:Ao}(hb:H[b]? =some (.var cs)):H'[b]? =some (.var cs):=by
 cases op<;>simp only[Rh,b9]at hq hs<;>try(first |(cases hq;done)|(cases hs;done))
 all_goals simp only[B4]at h
 case alloc=>simp only[Ay,Cg]at h;obtain⟨_,rfl⟩:=h;exact E4 hb
 case box=>simp only[Ay,Cg]at h;obtain⟨_,rfl⟩:=h;exact E4 hb
 case boxT=>simp only[Ay,Cg]at h;obtain⟨_,rfl⟩:=h;exact E4 hb
 case append=>split at h;exact Au3 h hb;cases h
 case appendS=>split at h;exact Au3 h hb;cases h
 case mkmap=>simp only[Ay,Cg]at h;obtain⟨_,rfl⟩:=h;exact E4 hb
 case mapset=>
  (repeat' (split at h))<;>first
   |(cases h;done)
   |(simp only[Ay,Cg]at h
     obtain⟨_,rfl⟩:=h;rw[Ia (fun e=>by subst e;simp_all)]
     exact hb)
def Awf{k:Nat}{o:AO}(h:L[k]? =some o)(hs:b9 o.op=true):Mj L<=k:=by
 unfold Mj
 induction L generalizing k with
 |nil=>simp
 |cons x xs ih=>
  cases k with
  |zero=>simp at h;subst h;simp[hs]
  |succ k=>
   simp at h;rw[List.takeWhile_cons];split
   . have:=ih h;simp only[Gq]; omega
   exact Nl _
def gc{P:Program}{V:Nat->Bool}{nq:Ck}{H0:Ai}{L:B8}{ws:List Ck}{np:Nat}{K:Ao->Ai->Prop}(hok:K4 L ws (H6 L nq) np=true)
 (Hb:∀(k:Nat) (o:AO) (l:B8) (t:Ao) (H':Ai),L[k]? =some o->b9 o.op=true->(∀ j,l[j]? =L[k+1+j]?)->Jv P V nq H0 (k+1) l t H' K->Ev V H0 H'\/np<=k):∀(l:B8) (k:Nat) (t:Ao) (H:Ai),(∀ j,l[j]? =L[k+j]?)->
 (Ev V H0 H\/np<=k)->Jv P V nq H0 k l t H K->Rz P (H6 L nq) np (Ev V H0) k l t H K
 | [],_,_,_,_,_,h=>h
 |o::l,k,t,H,hl,hC,h=>by
  have ho:L[k]? =some o:=by simpa using(hl 0).symm
  have Dk:k<L.length:=(List.getElem?_eq_some_iff.1 ho).1
  have Ci:∀j,l[j]? =L[k+1+j]?:=fun j=>by
   have:=hl (j+1);simp only[Ts]at this;rw[this]; congr 1;omega
  have Ji:H6 L nq k=(Rh o.op && !nq.contains k):=by simp[H6,ho]
  simp only[Jv]at h;simp only[Rz];rcases ur h with⟨hg,h⟩|⟨hg,h⟩
  . left
    refine⟨hg,?_⟩;by_cases hf:H6 L nq k=true
    . left
      have Yx:Ev V H0 H:=by
       rcases hC with h|h
       . exact h
       have:=(ci hok Dk).2.2.1 hf;omega
      have hf':=hf;rw[Ji,Bb,Mn]at hf';refine⟨hf,Yx,?_⟩
      have Gl:∀v,(∀ H2,Ev V H0 H2->E1 P o.op (Bh t) H2 v H2)->Jv P V nq H0 (k+1) l (Cd t o.dst v) H K->∃v,(∀ H2,Ev V H0 H2->E1 P o.op (Bh t) H2 v H2)/\Rz P (H6 L nq) (np) (Ev V H0) (k+1) l (Cd t o.dst v) H K:=
       fun v h1 h2=>⟨v,h1,gc hok Hb l (k+1) _ H Ci (.inl Yx) h2⟩
      generalize hop:o.op=op at h Gl hf'
      cases op with
      |call f args=>
       simp only[Mb,hf'.2,Vz,ka]at h;split at h
       . rename_i n a b Uk;obtain⟨v,h1,h2⟩:=h;exact Gl v (fun H2 Ue=>⟨n,a,b,Uk,h1 H2 Ue⟩) h2
       exact h.elim
      |load ag n x=>
       simp only[Mb,hf'.2,Vz]at h
       have hv:∃v,V2 V H0 ag n (Bh t x)=some v/\Jv P V nq H0 (k+1) l (Cd t o.dst v) H K:=by
        cases hx:V2 V H0 ag n (Bh t x)with
        |none=>rw[hx]at h;exact h.elim
        |some v=>rw[hx]at h;exact⟨v,rfl,h⟩
       obtain⟨v,hv,hd⟩:=hv;refine Gl v (fun H2 Ue=>?_) hd;unfold V2 at hv;split at hv
       . rename_i b off hx;split at hv
         . rename_i hV;split at hv
           . rename_i cs B7;simp only[E1,B4,hx,Ue b cs hV B7,hv,Tx]
           cases hv
         cases hv
       . rename_i cs hx;simp only[E1,B4,hx,hv,Tx]
       cases hv
      |_=>
       simp only[Mb]at h;obtain⟨v,H',h1,h2⟩:=Zj h;obtain⟨rfl,h3⟩:=wq hf'.1 Ab h1;exact Gl v (fun H2 _=>h3 H2) h2
    right
    have Sa:H6 L nq k=false:=by simpa using hf
    refine⟨Sa,?_⟩
    have Gl:∀v H',E1 P o.op (Bh t) H v H'->(Ev V H0 H'\/np<=k)->Jv P V nq H0 (k+1) l (Cd t o.dst v) H' K->∃v H',E1 P o.op (Bh t) H v H'/\(Ev V H0 H'\/np<=k)/\Rz P (H6 L nq) (np) (Ev V H0) (k+1) l (Cd t o.dst v) H' K:=
     fun v H' h1 h2 h3=>⟨v,H',h1,h2,gc hok Hb l (k+1) _ H' Ci (h2.imp id Aa) h3⟩
    have Auf:b9 o.op=true->∀t H',Jv P V nq H0 (k+1) l t H' K->Ev V H0 H'\/np<=k:=fun h t H' hd=>Hb k o l t H' ho h Ci hd;rw[Ji,li]at Sa;generalize hop:o.op=op at h Gl Sa Auf
    cases op with
    |call f args=>
     have hnq:nq.contains k=true:=by
      rcases Sa with h|h
      . cases h
      simpa using h
     simp only[Mb,hnq,jn]at h;obtain⟨v,H',h1,h2,h3⟩:=Are h
     exact Gl v H' h1 (.inl h2) h3
    |load ag n x=>
     have hnq:nq.contains k=true:=by
      rcases Sa with h|h
      . cases h
      simpa using h
     simp only[Mb,hnq,jn]at h;obtain⟨v,H',h1,h2⟩:=Zj h
     have hH:H'=H:=by
      simp only[B4]at h1
      (repeat' (split at h1))<;>first |(cases h1;done)|(simp only[Ef,Cg]at h1;obtain⟨_,_,_,rfl⟩:=h1;rfl)
     exact Gl v H' h1 (hH▸hC) h2
    |store n p x=>
     simp only[Mb]at h;obtain⟨v,H',h1,h2⟩:=Zj h
     exact Gl v H' h1 (Auf rfl _ _ h2) h2
    |_=>
     simp only[Mb]at h;obtain⟨v,H',h1,h2⟩:=Zj h;refine Gl v H' h1 (hC.imp (fun hC'=>?_) id) h2
     first
      |exact fun b cs hV hb=>Bap rfl rfl h1 (hC' b cs hV hb)
      |(have hq:=(wq rfl Ab h1).1;rw[hq]; exact hC')
  exact .inr ⟨hg,gc hok Hb l (k+1) _ H Ci (hC.imp id Aa) h⟩
def Ar5{P:Program}{V:Nat->Bool}{nq:Ck}{H0:Ai}(hok:K4 L ws (H6 L nq) (Mj L)=true)(l:B8)(k:Nat)(t:Ao)(H:Ai)(K:Ao->Ai->Prop)(hl:∀j,l[j]? =L[k+j]?)
 (hC:Ev V H0 H\/Mj L<=k) (h:Jv P V nq H0 k l t H K):Rz P (H6 L nq) (Mj L) (Ev V H0) k l t H K:=
 gc hok (fun _ _ _ _ _ ho h _ _=>.inr (Awf ho h)) l k t H hl hC h
def d6(l:List AO)(nq:List Nat):Bool:=(List.range l.length).all fun j=>decide (j<=Mj l)||(match l[j]? with |some o=>Rh o.op && !nq.contains j|none=>true)
def Bqo{nq:Ck}(h:d6 L nq=true){j:Nat}{o:AO}(ho:L[j]? =some o)(hj:Mj L<j):Rh o.op=true/\nq.contains j=false:=by
 unfold d6 at h;rw[Pn]at h;have:=h j (List.mem_range.2 (List.getElem?_eq_some_iff.1 ho).1);rw[ho]at this;simp only[Wj,Aw,Bb,Mn]at this;rcases this with h|h
 . omega
 exact h
def mg{P:Program}{V:Nat->Bool}{nq:List Nat}{H0:List HB}{K:List AV->List HB->Prop} :∀(l:List AO) (k:Nat) (t:List AV) (H:List HB),(∀ j o,l[j]? =some o->Rh o.op=true/\nq.contains (k+j)=false)->Jv P V nq H0 k l t H K->∃t',K t' H
 | [],_,t,_,_,h=>⟨t,h⟩
 |o::l,k,t,H,hq,h=>by
  have Ta:∀j o,l[j]? =some o->Rh o.op=true/\nq.contains (k+1+j)=false:=fun j o ho=>by
   have:=hq (j+1) o (by simpa using ho);rw[show k+1+j=k+(j+1) by omega]; exact this
  have h0:=hq 0 o Ab;simp only[qj]at h0;simp only[Jv]at h;rcases ur h with⟨_,h⟩|⟨_,h⟩
  . generalize o.op=op at h h0
    cases op with
    |call f args=>
     simp only[Mb,h0.2,Vz,ka]at h;split at h
     . obtain⟨v,_,h2⟩:=h;exact mg l (k+1) _ H Ta h2
     exact h.elim
    |load ag n x=>
     simp only[Mb,h0.2,Vz]at h
     cases hx:V2 V H0 ag n (Bh t x)with
     |none=>rw[hx]at h;exact h.elim
     |some v=>rw[hx]at h;exact mg l (k+1) _ H Ta h
    |_=>
     simp only[Mb]at h;obtain⟨v,H',h1,h2⟩:=Zj h;obtain⟨rfl,_⟩:=wq h0.1 Ab h1;exact mg l (k+1) _ _ Ta h2
  exact mg l (k+1) _ H Ta h
def Awg{k:Nat}{o:AO}(h:L[k]? =some o)(hs:b9 o.op=true):Mj L<=k:=Awf h hs
def A9.drawF{P:Program}{t:Ao}{H:Ai}{Q:AX->Ao->Ai->Prop}(hm:P.follows .mixedOrders=true)(V:Nat->Bool)(nq:Ck)(hok:K4 ops ws (H6 ops nq) ops.length=true)(ht:d6 ops nq=true)
 (h:Jv P V nq H 0 ops t H fun t' H'=>Ev V H H'/\Q .normal t' H'):A9 P (.draw ops ws) t H Q:=by
 refine A9.mono (A9.draw (Q:=fun x t' H'=>Ev V H H'/\Q x t' H') hm (H6 ops nq) ops.length (Ev V H) hok (fun _ _ _ h=>h) ?_) fun x t' H' hx=>hx.2;refine gc hok (fun k o l t' H' ho hs hl hd=>.inl ?_) ops 0 t H Ab (.inl fun _ _ _ h=>h) h;obtain⟨t2,h2⟩:=mg l (k+1) t' H' (fun j o' ho'=>Bqo ht (by rw[<- hl j]; exact ho') (by have:=Awg ho hs;omega)) hd;exact h2.1
def A9.drawC{P:Program}{t:Ao}{H:Ai}{Q:AX->Ao->Ai->Prop}(hm:P.follows .mixedOrders=true)(V:Nat->Bool)(nq:Ck)(hok:K4 ops ws (H6 ops nq) (Mj ops)=true)
 (h:Jv P V nq H 0 ops t H fun t' H'=>Q .normal t' H'):A9 P (.draw ops ws) t H Q:=
 A9.draw hm (H6 ops nq) (Mj ops) (Ev V H) hok (fun _ _ _ h=>h) (Ar5 hok ops 0 t H _ Ab (.inl fun _ _ _ h=>h) h)
def Ua:AV->Bool
 | .int k n=>decide (n<k.min\/k.max<n)
 | .agg (.int k n::_)=>decide (n<k.min\/k.max<n)
 | .tup (.int k n::_)=>decide (n<k.min\/k.max<n)
 |_=>false
def qs{F:Addr->Prop}{g:Gh}{w:World}{u:Value}(h:Ua v=true)(hr:R F g w v u):False:=by
 unfold Ua at h;split at h
 . simp only[R,IntKind.has]at hr;simp only[Aw]at h;omega
 . simp only[R,RL,IntKind.has]at hr;obtain⟨_,_,_,_,_,⟨_,hr⟩,_⟩:=hr;simp only[Aw]at h;omega
 . simp only[R,RL,IntKind.has]at hr;obtain⟨_,_,_,_,_,⟨_,hr⟩,_⟩:=hr;simp only[Aw]at h;omega
 cases h
def A9.dead{P:Program}{ac:AC}{t:Ao}{H:Ai}{Q:AX->Ao->Ai->Prop}(d:Nat)(h:A9 P ac t H fun _ t' _=>Ua (t'.getD d .undef)=true):A9 P ac t H Q:=by
 intro c hc F g w a hs;refine wp_mono (h c hc F g w a hs) fun e a' w' hp=>?_;rcases hp with⟨x,t',H',F',g',rfl,hd,Cv,hx⟩|hp
 . exfalso;rcases E8 d t'.length with hl|hl
   . obtain⟨u,_,hr⟩:=Vg Cv.2.1 d t'[d] (by simp[hl]);have e:t'.getD d .undef=t'[d]:=by simp[Jb,hl]
     rw[e]at hd;exact qs hd hr
   have e:t'.getD d .undef= .undef:=by simp[Jb,hl]
   rw[e]at hd;simp[Ua,AV.undef]at hd
 exact .inr hp
def Xg(V:Nat->Bool):AV->Bool
 | .ptr b _=>!V b
 |_=>false
def xk(l:List AO)(nq ds:List Nat):Bool:=(List.range l.length).all fun j=>decide (j<Mj l)||(match l[j]? with
 |some o=>(match o.op with
  | .store _ (.tmp d) _=>ds.contains d&&o.dst.isNone
  |op=>Rh op && !nq.contains j&&(match o.dst with |some d=>!ds.contains d|none=>true))
 |none=>true)
def oy(nq ds:List Nat)(j:Nat)(o:AO):Bool:=match o.op with
    | .store _ (.tmp d) _=>ds.contains d&&o.dst.isNone
    |op=>Rh op && !nq.contains j&&(match o.dst with |some d=>!ds.contains d|none=>true)
def Bqp{nq ds:Ck}(h:xk L nq ds=true){j:Nat}{o:AO}(ho:L[j]? =some o)(hj:Mj L<=j):oy nq ds j o=true:=by
 unfold xk at h;rw[Pn]at h;have:=h j (List.mem_range.2 (List.getElem?_eq_some_iff.1 ho).1);rw[ho]at this;simp only[Wj,Aw]at this;rcases this with h|h
 . omega
 exact h
def Bnr{t:Ao}{dst:Option Nat}{ds:Ck}(h:(match dst with |some d=>!ds.contains d|none=>true)=true){d:Nat}(hd:d∈ds):(Cd t dst v).getD d .undef=t.getD d .undef:=by
 cases dst with
 |none=>rfl
 |some x=>
  have:x≠d:=fun e=>by subst e;simp_all
  simp only[Cd,Jb,Ia this]
def Ar6{P:Program}{V:Nat->Bool}{nq ds:Ck}{H0:Ai}{K:Ao->Ai->Prop} :∀(l:B8) (k:Nat) (t:Ao) (H:Ai),(∀ j o,l[j]? =some o->oy nq ds (k+j) o=true)->
 Jv P V nq H0 k l t H (fun t' H'=>Ev V H0 H'/\(∀ d∈ds,Xg V (t'.getD d .undef)=true)/\K t' H')->Ev V H0 H/\∀d∈ds,Xg V (t.getD d .undef)=true
 | [],_,t,H,_,h=>⟨h.1,h.2.1⟩
 |o::l,k,t,H,hq,h=>by
  have Ta:∀j o,l[j]? =some o->oy nq ds (k+1+j) o=true:=fun j o ho=>by
   have:=hq (j+1) o (by simpa using ho);rw[show k+1+j=k+(j+1) by omega]; exact this
  have h0:=hq 0 o Ab;simp only[qj]at h0
  have back:∀v H',(match o.dst with |some d=>!ds.contains d|none=>true)=true->Jv P V nq H0 (k+1) l (Cd t o.dst v) H' (fun t' H'=>Ev V H0 H'/\(∀ d∈ds,Xg V (t'.getD d .undef)=true)/\K t' H')->Ev V H0 H'/\∀d∈ds,Xg V (t.getD d .undef)=true:=fun v H' hd hr=>by
   obtain⟨e1,e2⟩:=Ar6 l (k+1) _ H' Ta hr;exact⟨e1,fun d Fz=>by rw[<- Bnr (v:=v) hd Fz]; exact e2 d Fz⟩
  simp only[Jv]at h
  have ay:(match o.dst with |some d=>!ds.contains d|none=>true)=true:=by
   unfold oy at h0;split at h0
   . simp only[Bb,Option.isNone_iff_eq_none]at h0;rw[h0.2]
   simp only[Bb]at h0;exact h0.2
  rcases ur h with⟨_,h⟩|⟨_,h⟩
  . unfold oy at h0;generalize hop:o.op=op at h h0
    cases op with
    |call f args=>
     simp only[Bb,Mn]at h0;simp only[Mb,h0.1.2,Vz,ka]at h;split at h
     . obtain⟨v,_,h2⟩:=h;exact back v H ay h2
     exact h.elim
    |load ag n x=>
     simp only[Bb,Mn]at h0;simp only[Mb,h0.1.2,Vz]at h
     cases hx:V2 V H0 ag n (Bh t x)with
     |none=>rw[hx]at h;exact h.elim
     |some v=>rw[hx]at h;exact back v H ay h
    |store n a x=>
     simp only[Mb]at h;obtain⟨v,H',h1,h2⟩:=Zj h;obtain⟨e1,e2⟩:=back v H' ay h2;refine⟨?_,e2⟩
     cases a with
     |cst v=>simp[Rh]at h0
     |tmp d=>
      simp only[Bb]at h0;have hd:d∈ds:=by simpa using h0.1
      have hf:=e2 d hd;simp only[B4]at h1;intro b cs hV hb;have:=e1 b cs hV hb;have e3:Bh t (.tmp d)=t.getD d .undef:=rfl;rw[e3]at h1;cases hp:t.getD d .undef<;>rw[hp]at hf h1<;>simp only[Xg,Dp]at hf
      rename_i b' off;have Bg:b'≠b:=fun e=>by subst e;rw[hV]at hf;cases hf
      simp only at h1
      (repeat' (split at h1))<;>first
       |(cases h1;done)
       |(simp only[Ay,Cg]at h1;obtain⟨_,rfl⟩:=h1;rwa [Ia Bg]at this)
    |_=>
     simp only[Bb]at h0;simp only[Mb]at h;obtain⟨v,H',h1,h2⟩:=Zj h;obtain⟨rfl,_⟩:=wq h0.1.1 Ab h1;exact back v _ ay h2
  exact back .undef H ay h
def A9.drawG{P:Program}{t:Ao}{H:Ai}{Q:AX->Ao->Ai->Prop}(hm:P.follows .mixedOrders=true)(V:Nat->Bool)(nq ds:Ck)(hok:K4 ops ws (H6 ops nq) ops.length=true)(ht:xk ops nq ds=true)
 (h:Jv P V nq H 0 ops t H fun t' H'=>Ev V H H'/\(∀ d∈ds,Xg V (t'.getD d .undef)=true)/\Q .normal t' H'):A9 P (.draw ops ws) t H Q:=by
 refine A9.mono (A9.draw (Q:=fun x t' H'=>Ev V H H'/\(∀ d∈ds,Xg V (t'.getD d .undef)=true)/\Q x t' H') hm (H6 ops nq) ops.length (Ev V H) hok (fun _ _ _ h=>h) ?_) fun x t' H' hx=>hx.2.2;refine gc hok (fun k o l t' H' ho hs hl hd=>.inl ?_) ops 0 t H Ab (.inl fun _ _ _ h=>h) h;exact(Ar6 l (k+1) t' H' (fun j o' ho'=>Bqp ht (by rw[<- hl j]; exact ho') (by have:=Awg ho hs;omega)) hd).1
def Ot(P:Program):AC->(AX->List AV->List HB->Prop)->List AV->List HB->Prop
 | .skip,Q,t,H=>Q .normal t H
 | .region ops,Q,t,H=>Yl P ops t H fun t' H'=>Q .normal t' H'
 | .draw ops ws,Q,t,H=>(∃ V nq,K4 ops ws (H6 ops nq) (Mj ops)=true/\Jv P V nq H 0 ops t H fun t' H'=>Q .normal t' H')\/
   (∃ V nq,K4 ops ws (H6 ops nq) ops.length=true/\d6 ops nq=true/\Jv P V nq H 0 ops t H fun t' H'=>Ev V H H'/\Q .normal t' H')\/
   A9 P (.draw ops ws) t H Q
 | .seq a b,Q,t,H=>Ot P a (Zo (fun t' H'=>Ot P b Q t' H') Q) t H
 | .cond c a b,Q,t,H=>Ary (Bh t c) (Ot P a Q t H) (Ot P b Q t H)
 | .block id a,Q,t,H=>Ot P a (l7 id Q) t H
 | .loop a,Q,t,H=>A9 P (.loop a) t H Q
 | .exit id,Q,t,H=>Q (.exit id) t H
 | .ret,Q,t,H=>Q .ret t H
 | .bad,_,_,_=>False
def A9.of{P:Program}(hm:P.follows .mixedOrders=true):∀{ac:AC} {Q:AX->List AV->List HB->Prop} {t:List AV} {H:List HB},Ot P ac Q t H->A9 P ac t H Q
 | .skip,_,_,_,h=>A9.skip h
 | .region _,_,_,_,h=>A9.region (Sw h)
 | .draw _ _,_,_,_,h=>by
   rcases h with⟨V,nq,h1,h2⟩|⟨V,nq,h1,h2,h3⟩|h
   . exact A9.drawC hm V nq h1 h2
   . exact A9.drawF hm V nq h1 h2 h3
   exact h
 | .seq _ _,Q,_,_,h=>A9.seq (A9.mono (A9.of hm h) fun x t H hx=>by
  cases x with
  |normal=>exact A9.of hm hx
  |exit _=>exact hx
  |ret=>exact hx)
 | .cond c x y,Q,t,H,h=>by
   have key:∃b,Bh t c= .bool b/\Si b (Ot P x Q t H) (Ot P y Q t H):=by
    simp only[Ot]at h;cases hx:Bh t c<;>rw[hx]at h<;>first |exact⟨_,rfl,h⟩|exact h.elim
   obtain⟨b,h0,h1⟩:=key;refine A9.cond h0 (fun e=>?_) (fun e=>?_)
   . subst e;exact A9.of hm h1
   subst e;exact A9.of hm h1
 | .block _ _,_,_,_,h=>A9.block (A9.of hm h)
 | .loop _,_,_,_,h=>h
 | .exit _,_,_,_,h=>A9.exit h
 | .ret,_,_,_,h=>A9.ret h
 | .bad,_,_,_,h=>h.elim
end
end
def mixed:Tryz.prog.follows .mixedOrders=true:=by kernel_rfl
@[simp] abbrev zo(d:Nat)(e:Ek):AO:=⟨some d,e,none⟩
@[simp] abbrev zw(d:Nat)(e:Ek)(c:Nat)(b:Bool):AO:=⟨some d,e,some (c,b)⟩
@[simp] abbrev zm(d s:Nat):AO:=⟨some d,.mov (.tmp s),none⟩
@[simp] abbrev zs(k a b:Nat):AO:=⟨none,.store k (.tmp a) (.tmp b),none⟩
@[simp] abbrev zc(i:Nat)(l:List AR):Ek:=.call (.cst (.fn (.func i) [] [])) l
@[simp] abbrev zl(k s:Nat):Ek:=.load false k (.tmp s)
@[simp] abbrev zt(k s:Nat):Ek:=.load true k (.tmp s)
@[simp] abbrev zf(k s:Nat):Ek:=.faddr k (.tmp s)
@[simp] abbrev zi(n:Int):AR:=.cst (.int .i64 n)
@[simp] abbrev zb(b:Bool):AR:=.cst (.bool b)
@[simp] abbrev z1:List AV:=[(.sl .nilT [])]
@[simp] abbrev z6:List AV:=[(.int .i64 0),(.int .i64 0),(.str []),(.sl .nilT []),(.sl .nilT []),(.sl .nilT [])]
@[simp] abbrev z14:List AV:=[(.int .i64 0),(.int .i64 0),(.str []),(.int .i64 0),(.int .i64 0),(.str []),(.sl .nilT []),(.sl .nilT []),(.sl .nilT []),(.sl .nilT []),(.sl .nilT []),(.sl .nilT []),(.sl .nilT []),(.sl .nilT [])]
@[simp] abbrev z18:List AV:=[(.int .i64 0),(.int .i64 0),(.str []),(.int .i64 0),(.int .i64 0),(.str []),(.sl .nilT []),(.sl .nilT []),(.sl .nilT []),(.int .i64 0),(.int .i64 0),(.str []),(.sl .nilT []),(.sl .nilT []),(.sl .nilT []),(.sl .nilT []),(.sl .nilT []),(.sl .nilT [])]
@[simp] abbrev z35:List AV:=[(.sl .nilT []),(.sl .nilT []),(.bool false),(.int .i64 0),(.int .i64 0),(.str []),(.int .i64 0),(.int .i64 0),(.str []),(.sl .nilT []),(.sl .nilT []),(.sl .nilT []),(.sl .nilT []),(.sl .nilT []),(.sl .nilT []),(.sl .nilT []),(.sl .nilT []),(.int .i64 0),(.int .i64 0),(.str []),(.int .i64 0),(.int .i64 0),(.str []),(.sl .nilT []),(.sl .nilT []),(.sl .nilT []),(.int .i64 0),(.int .i64 0),(.str []),(.sl .nilT []),(.sl .nilT []),(.sl .nilT []),(.sl .nilT []),(.sl .nilT []),(.sl .nilT [])]
@[simp] abbrev zF(d k s:Nat):AO:=⟨some d,.faddr k (.tmp s),none⟩
@[simp] abbrev zL(d k s:Nat):AO:=⟨some d,.load false k (.tmp s),none⟩
@[simp] abbrev zT(d k s:Nat):AO:=⟨some d,.load true k (.tmp s),none⟩
@[simp] abbrev zC(d i:Nat)(l:List AR):AO:=⟨some d,.call (.cst (.fn (.func i) [] [])) l,none⟩
@[simp] abbrev zI(d:Nat)(n:Int):AO:=⟨some d,.mov (.cst (.int .i64 n)),none⟩
@[simp] abbrev zB(d s:Nat):AO:=⟨some d,.box (.tmp s),none⟩
@[simp] abbrev zX(d s k:Nat):AO:=⟨some d,.extract (.tmp s) k,none⟩
@[simp] abbrev zV(d:Nat)(b:Bool):AO:=⟨some d,.mov (.cst (.bool b)),none⟩
@[simp] abbrev zO(d a b:Nat):AO:=⟨some d,.pick (.tmp a) (.cst (.bool true)) (.tmp b),none⟩
@[simp] abbrev zA(d a b:Nat):AO:=⟨some d,.pick (.tmp a) (.tmp b) (.cst (.bool false)),none⟩
@[simp] abbrev zE(d s:Nat)(n:Int):AO:=⟨some d,.bin .eql (.tmp s) (.cst (.int .i64 n)),none⟩
@[simp] abbrev zP(d s:Nat)(n:Int):AO:=⟨some d,.bin .add (.tmp s) (.cst (.int .i64 n)),none⟩
@[simp] abbrev zJ(d k a b:Nat):AO:=⟨some d,.iaddr k (.tmp a) (.tmp b),none⟩
@[simp] abbrev zS(d a b:Nat):AO:=⟨some d,.bin .lss (.tmp a) (.tmp b),none⟩
@[simp] abbrev zN(d s:Nat):AO:=⟨some d,.len (.tmp s),none⟩
@[simp] abbrev zU(d s:Nat):AO:=⟨some d,.un .not (.tmp s),none⟩
@[simp] abbrev zG(d k s c:Nat)(b:Bool):AO:=⟨some d,.load false k (.tmp s),some (c,b)⟩
@[simp] abbrev zH(d k s c:Nat)(b:Bool):AO:=⟨some d,.faddr k (.tmp s),some (c,b)⟩
@[simp] abbrev zM(d s c:Nat)(b:Bool):AO:=⟨some d,.mov (.tmp s),some (c,b)⟩
@[simp] abbrev zD(d i:Nat)(l:List AR)(c:Nat)(b:Bool):AO:=⟨some d,.call (.cst (.fn (.func i) [] [])) l,some (c,b)⟩
@[simp] abbrev zK(d:Nat)(l:List AV):AO:=⟨some d,.alloc l,none⟩
@[simp] abbrev zn(o:BinOp)(d a:Nat)(n:Int):AO:=⟨some d,.bin o (.tmp a) (.cst (.int .i64 n)),none⟩
@[simp] abbrev zr(o:BinOp)(d a b:Nat):AO:=⟨some d,.bin o (.tmp a) (.tmp b),none⟩
@[simp] abbrev zu(o:BinOp)(d a:Nat)(n:Int)(c:Nat)(b:Bool):AO:=⟨some d,.bin o (.tmp a) (.cst (.int .i64 n)),some (c,b)⟩
@[simp] abbrev zv(o:BinOp)(d a e c:Nat)(b:Bool):AO:=⟨some d,.bin o (.tmp a) (.tmp e),some (c,b)⟩
@[simp] abbrev zj(d s c:Nat)(b:Bool):AO:=⟨some d,.un .not (.tmp s),some (c,b)⟩
@[simp] abbrev zp(d k e a b:Nat):AO:=⟨some d,.append k e (.tmp a) (.tmp b),none⟩
@[simp] abbrev zh(d s c:Nat)(b:Bool):AO:=⟨some d,.len (.tmp s),some (c,b)⟩
@[simp] abbrev zg(d k s c:Nat)(b:Bool):AO:=⟨some d,.load true k (.tmp s),some (c,b)⟩
@[simp] abbrev ze(d k a:Nat)(n:Int):AO:=⟨some d,.iaddr k (.tmp a) (.cst (.int .i64 n)),none⟩
@[simp] abbrev zd(d s:Nat):AO:=⟨some d,.nilck (.tmp s),none⟩
@[simp] abbrev za(d:Nat):AO:=⟨some d,.mov (.cst (.sl .nilT [])),none⟩
@[simp] abbrev zQ(d a e c:Nat)(b:Bool):AO:=⟨some d,.pick (.tmp a) (.tmp e) (.cst (.bool false)),some (c,b)⟩
@[simp] abbrev zR(d a e c:Nat)(b:Bool):AO:=⟨some d,.pick (.tmp a) (.cst (.bool true)) (.tmp e),some (c,b)⟩
@[simp] abbrev zY(d i:Nat)(l:List Nat):AO:=⟨some d,.call (.cst (.fn (.func i) [] [])) (l.map .tmp),none⟩
@[simp] abbrev zZ(d i:Nat)(l:List Nat)(c:Nat)(b:Bool):AO:=⟨some d,.call (.cst (.fn (.func i) [] [])) (l.map .tmp),some (c,b)⟩
@[simp] abbrev tt:Bool:=true
@[simp] abbrev ff:Bool:=false
@[simp] abbrev zy(l:List AO)(c:AC):AC:=.seq (.region l) c
@[simp] abbrev zz(l:List AO):AC:=.region l
@[simp] abbrev zk(c:Nat)(a b:AC):AC:=.cond (.tmp c) a b
@[simp] abbrev zq(a b:AC):AC:=.seq a b
@[simp] abbrev zx(d:Option Nat)(e:Ek)(g:Option (Nat×Bool)):AO:=⟨d,e,g⟩
@[simp] abbrev ys(k:Nat)(a b:AR):AO:=⟨none,.store k a b,none⟩
@[simp] abbrev yo(e:Ek)(d:Nat):AO×Nat:=(zo d e,d+1)
@[simp] abbrev yw(e:Ek)(c:Nat)(b:Bool)(d:Nat):AO×Nat:=(zw d e c b,d+1)
@[simp] abbrev ym(s:Nat)(d:Nat):AO×Nat:=(zm d s,d+1)
@[simp] abbrev yF(k s:Nat)(d:Nat):AO×Nat:=(zF d k s,d+1)
@[simp] abbrev yL(k s:Nat)(d:Nat):AO×Nat:=(zL d k s,d+1)
@[simp] abbrev yT(k s:Nat)(d:Nat):AO×Nat:=(zT d k s,d+1)
@[simp] abbrev yC(i:Nat)(l:List AR)(d:Nat):AO×Nat:=(zC d i l,d+1)
@[simp] abbrev yI(n:Int)(d:Nat):AO×Nat:=(zI d n,d+1)
@[simp] abbrev yB(s:Nat)(d:Nat):AO×Nat:=(zB d s,d+1)
@[simp] abbrev yX(s k:Nat)(d:Nat):AO×Nat:=(zX d s k,d+1)
@[simp] abbrev yV(b:Bool)(d:Nat):AO×Nat:=(zV d b,d+1)
@[simp] abbrev yO(a b:Nat)(d:Nat):AO×Nat:=(zO d a b,d+1)
@[simp] abbrev yA(a b:Nat)(d:Nat):AO×Nat:=(zA d a b,d+1)
@[simp] abbrev yE(s:Nat)(n:Int)(d:Nat):AO×Nat:=(zE d s n,d+1)
@[simp] abbrev yP(s:Nat)(n:Int)(d:Nat):AO×Nat:=(zP d s n,d+1)
@[simp] abbrev yJ(k a b:Nat)(d:Nat):AO×Nat:=(zJ d k a b,d+1)
@[simp] abbrev yS(a b:Nat)(d:Nat):AO×Nat:=(zS d a b,d+1)
@[simp] abbrev yN(s:Nat)(d:Nat):AO×Nat:=(zN d s,d+1)
@[simp] abbrev yU(s:Nat)(d:Nat):AO×Nat:=(zU d s,d+1)
@[simp] abbrev yG(k s c:Nat)(b:Bool)(d:Nat):AO×Nat:=(zG d k s c b,d+1)
@[simp] abbrev yH(k s c:Nat)(b:Bool)(d:Nat):AO×Nat:=(zH d k s c b,d+1)
@[simp] abbrev yM(s c:Nat)(b:Bool)(d:Nat):AO×Nat:=(zM d s c b,d+1)
@[simp] abbrev yD(i:Nat)(l:List AR)(c:Nat)(b:Bool)(d:Nat):AO×Nat:=(zD d i l c b,d+1)
@[simp] abbrev yK(l:List AV)(d:Nat):AO×Nat:=(zK d l,d+1)
@[simp] abbrev yn(o:BinOp)(a:Nat)(n:Int)(d:Nat):AO×Nat:=(zn o d a n,d+1)
@[simp] abbrev yr(o:BinOp)(a b:Nat)(d:Nat):AO×Nat:=(zr o d a b,d+1)
@[simp] abbrev yu(o:BinOp)(a:Nat)(n:Int)(c:Nat)(b:Bool)(d:Nat):AO×Nat:=(zu o d a n c b,d+1)
@[simp] abbrev yv(o:BinOp)(a e c:Nat)(b:Bool)(d:Nat):AO×Nat:=(zv o d a e c b,d+1)
@[simp] abbrev yj(s c:Nat)(b:Bool)(d:Nat):AO×Nat:=(zj d s c b,d+1)
@[simp] abbrev yp(k e a b:Nat)(d:Nat):AO×Nat:=(zp d k e a b,d+1)
@[simp] abbrev yh(s c:Nat)(b:Bool)(d:Nat):AO×Nat:=(zh d s c b,d+1)
@[simp] abbrev yg(k s c:Nat)(b:Bool)(d:Nat):AO×Nat:=(zg d k s c b,d+1)
@[simp] abbrev ye(k a:Nat)(n:Int)(d:Nat):AO×Nat:=(ze d k a n,d+1)
@[simp] abbrev yd(s:Nat)(d:Nat):AO×Nat:=(zd d s,d+1)
@[simp] abbrev ya(d:Nat):AO×Nat:=(za d,d+1)
@[simp] abbrev yQ(a e c:Nat)(b:Bool)(d:Nat):AO×Nat:=(zQ d a e c b,d+1)
@[simp] abbrev yR(a e c:Nat)(b:Bool)(d:Nat):AO×Nat:=(zR d a e c b,d+1)
@[simp] abbrev yY(i:Nat)(l:List Nat)(d:Nat):AO×Nat:=(zY d i l,d+1)
@[simp] abbrev yZ(i:Nat)(l:List Nat)(c:Nat)(b:Bool)(d:Nat):AO×Nat:=(zZ d i l c b,d+1)
instance:Coe AO (Nat->AO×Nat):=⟨fun a n=>(a,n)⟩
def nmb:Nat->List (Nat->AO×Nat)->List AO
 |_,[]=>[]
 |i,a::l=>(a i).1::nmb (a i).2 l
@[simp] def nmb_n(i:Nat):nmb i []=[]:=(rfl)
@[simp] def nmb_c(i:Nat)(a:Nat->AO×Nat)(l:List (Nat->AO×Nat)):nmb i (a::l)=(a i).1::nmb (a i).2 l:=(rfl)
@[simp] abbrev yy(i:Nat)(l:List (Nat->AO×Nat))(c:AC):AC:=.seq (.region (nmb i l)) c
@[simp] abbrev yz(i:Nat)(l:List (Nat->AO×Nat)):AC:=.region (nmb i l)
@[simp] abbrev yx(i:Nat)(l:List (Nat->AO×Nat))(w:List (List Nat)):AC:=.draw (nmb i l) w
abbrev Fk(f:Nat)(ac:AC)(n:Nat)(rs:List Gp):Prop:=Nk Tryz.prog f ac n rs
def okF{f:Nat}{ac:AC}{n:Nat}{rs:List Gp}(h:sx Tryz.prog f=some (ac,n,rs):=by kernel_rfl):Fk f ac n rs:=Nk.of h
