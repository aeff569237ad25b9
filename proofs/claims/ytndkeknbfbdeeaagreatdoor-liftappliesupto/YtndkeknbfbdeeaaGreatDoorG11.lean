/- A part of the proof that LiftApplies answers true. -/
import Derived.OrdersIn
import Derived.RangeFuncNested
import Derived.RangeFuncCalls
import Derived.RangeFuncLeaves
import Derived.Test.YtndkeknbfbdeeaaGreatDoorG10
import Derived.Test.YtndkeknbfbdeeaaGreatDoorG09
import Derived.Below
import Derived.Laws.Externs
import Derived.Lib.Walk
import Derived.WalkKit
import Derived.Shelf.Abstract
set_option linter.all false
set_option maxHeartbeats 4000000
set_option maxRecDepth 100000
namespace Go.Proofs.YtndkeknbfbdeeaaGreatDoor
open Go
variable {vs:Array Value}{ops:B8}{fr:Nat×Nat}{e:TypeId}
section
section
variable {P:Program} {ro:Option Nat} {n:Nat}
abbrev fz(ro:Option Nat):Fence:={Fence.wide with round:=ro}
def Bn8{row:String}{args:Array Value}{w:World}{R:Value->World->Prop}(h:Rows P row args w R):RowsIn (fz ro) n P row args w R:=
 fun c cs _=>let⟨v,w',r,s⟩:=h c cs;⟨v,w',r,stepsIn_wide.2 s⟩
def pn{o:Oper}{a:Act}{w:World}{K:Act->World->Prop}{Q:Exit->Act->World->Prop}(hd:∀c,o.op≠.defer c)(h:o.wp P a w K Q):o.wpIn (fz ro) n P a w K Q:=by
 refine⟨fun _ _=>trivial,?_⟩;rw[Oper.semAt_eq _ _ _ hd];unfold Oper.wp at h;generalize (execOp a.eval o).run P w=r at h ⊢
 cases r with
 |ok x w'=>
  cases x
  case value v=>exact h
  case skip=>exact h
  case defer d=>exact h
  case enter f args=>exact⟨(fun e=>by cases e),(callsIn_wide.2 h:CallsIn Fence.wide (n-1) P f args w' _)⟩
  case row r args=>exact⟨(fun e=>by cases e),Bn8 h⟩
  all_goals exact h.elim
 |halt x w'=>
  cases x<;>exact h
def mc{o:Op}{ao:Ek}(h:Vm P o=some ao):∀c,o≠.defer c:=by
 rintro c rfl;simp[Vm]at h
def Aaq{aos:B8}{waits:List Ck}{fl:Nat->Bool}{np:Nat}{C:Ai->Prop}{K:Ao->Ai->Prop}{ops:Array Oper}(hc:I4 P ops ops.toList=some aos)(hw:waits=Tk ops){Q:Exit->Act->World->Prop} :∀(fuel:Nat) (listed:Array Bool) (F:Addr->Prop) (g:Gh) (H:Ai) (w:World) (t:Ao) (a:Act),Gk P F g H w t a->Tz P aos waits fl np C K fuel listed t H->
 (∀ F' g' H' w' t' a',Gk P F' g' H' w' t' a'->Bn F g H w F' g' H' w'->K t' H'->Q .normal a' w')->wpAnyIn (fz ro) n P .any ops Q fuel listed a w
 |0,listed,F,g,H,w,t,a,hs,h,hQ=>⟨(kn hc hw).2 h.1,hQ F g H w t a hs (Bn.refl _ _ _ _) h.2⟩
 |fuel+1,listed,F,g,H,w,t,a,hs,h,hQ=>by
  refine⟨fun hr=>hQ F g H w t a hs (Bn.refl _ _ _ _) (h.1 ((kn hc hw).1 hr)),fun i hi=>?_⟩;have h2:=h.2 i ((ol hc hw).1 hi);obtain⟨_,o,ho,_⟩:=mem_ready.1 hi;obtain⟨x,hx,Og⟩:=(Yp hc).2 i o (by simpa using ho);unfold W2 at Og;split at Og
  . rename_i op gd c1 c2;simp only[Ay]at Og;subst Og;obtain⟨s1,s2,s3,s4⟩:=hs;have hg:=ah s2 c2;unfold fh at h2;simp only[hx]at h2;unfold wpOpIn;simp only[ho,hg]
    have go:∀v H',E1 P op (Bh t) H v H'->Tz P aos waits fl np C K fuel (listed.setIfInBounds i true) (Cd t o.dst v) H'->o.wpIn (fz ro) n P a w (wpAnyIn (fz ro) n P .any ops Q fuel (listed.setIfInBounds i true)) Q:=by
     intro v H' e1 e2
     exact pn (mc c1) (U4 s4 s1 s2 c1 e1 (fun w' F' g' u r1 r2 r3=>
      Aaq hc hw fuel _ F' g' H' w' _ _ ⟨r2,(s2.mono r3.keeps).put r1 _,by rw[Sn]; exact s3,s4.mono r3.keeps⟩ e2 fun F2 g2 H2 w2 t2 a2 q1 q2 q3=>hQ F2 g2 H2 w2 t2 a2 q1 (r3.trans q2) q3) rfl Kt.none)
    split at h2
    . rename_i a8;simp only[a8,Bp];split at h2
      . obtain⟨Yx,v,hv,hn⟩:=h2;exact go v H (hv H Yx) hn
      obtain⟨v,H',hv,_,hn⟩:=h2;exact go v H' hv hn
    rename_i a8;simp only[a8,Dp,Bq];exact⟨fun _ _=>trivial,Aaq hc hw fuel _ F g H w _ _ ⟨s1,s2.put Hk _,by rw[Sn]; exact s3,s4⟩ h2 hQ⟩
  cases Og
def Hz(P:Program)(ro:Option Nat)(n:Nat)(ac:AC)(t:List AV)(H:List HB)(Q:AX->List AV->List HB->Prop):Prop:=
 ∀c,Du P c=some ac->∀F g w a,Gk P F g H w t a->
  c.wpIn (fz ro) n P (fun e a' w'=>∃x t' H' F' g',e=AX.to x/\Q x t' H'/\Gk P F' g' H' w' t' a'/\Bn F g H w F' g' H' w') a w
variable {t:List AV} {H:List HB} {Q:AX->List AV->List HB->Prop}
def Hz.draw{waits:List Ck}(hm:P.follows .mixedOrders=true)(fl:Nat->Bool)(np:Nat)(C:Ai->Prop)(hok:K4 ops waits fl np=true)(hC:C H)(h:Rz P fl np C 0 ops t H fun t' H'=>Q .normal t' H'):Hz P ro n (.draw ops waits) t H Q:=by
 intro c hc F g w a hs;obtain⟨id,os,rfl,hy,rfl⟩:=Abi hc;refine wpIn_region_any hm ?_;obtain⟨Ik,Fd⟩:=hs.drew (w':={w with drawn:=w.drawn+1}) rfl ⟨rfl,rfl⟩;have hlen:=(Yp hy).1;simp only[Ou]at hlen;have h2:=Aao (P:=P) (K:=fun t' H'=>Q .normal t' H') hok ops 0 (Array.replicate os.size false) t H Ab Ab (by simp[hlen]) (fun j hj=>by simp[hlen,hj]) (.inl hC) h;rw[<- hlen]at h2;exact Aaq hy rfl _ _ F g H _ t a Ik h2 fun F' g' H' w' t' a' q1 q2 q3=>⟨.normal,t',H',F',g',rfl,q3,q1,Fd.trans q2⟩
def Hz.drawC{ws:List Ck}(hm:P.follows .mixedOrders=true)(V:Nat->Bool)(nq:Ck)(hok:K4 ops ws (H6 ops nq) (Mj ops)=true)
 (h:Jv P V nq H 0 ops t H fun t' H'=>Q .normal t' H'):Hz P ro n (.draw ops ws) t H Q:=
 Hz.draw hm (H6 ops nq) (Mj ops) (Ev V H) hok (fun _ _ _ h=>h) (Ar5 hok ops 0 t H _ Ab (.inl fun _ _ _ h=>h) h)
def Aa1{ops:Array Oper}{Q:Exit->Act->World->Prop}{K:Ao->Ai->Prop} :∀(os:List Oper) (aos:B8) (k:Nat) (F:Addr->Prop) (g:Gh) (H:Ai) (w:World) (t:Ao) (a:Act),(∀ j,os[j]? =ops[k+j]?)->I4 P ops os=some aos->
 Gk P F g H w t a->Jc P aos t H K->(∀ F' g' H' w' t' a',Gk P F' g' H' w' t' a'->Bn F g H w F' g' H' w'->K t' H'->Q .normal a' w')->wpOpsIn (fz ro) n P ops Q (List.range' k os.length) a w
 | [],aos,k,F,g,H,w,t,a,_,hc,hs,h,hQ=>by
   simp only[I4,Ay]at hc;subst hc
   exact hQ F g H w t a hs (Bn.refl _ _ _ _) h
 |o::os,aos,k,F,g,H,w,t,a,hl,hc,hs,h,hQ=>by
  simp only[I4]at hc;split at hc
  . rename_i x xs h1 h2;simp only[Ay]at hc;subst hc;have ho:ops[k]? =some o:=by simpa using(hl 0).symm
    have Ci:∀j,os[j]? =ops[k+1+j]?:=fun j=>by
     have:=hl (j+1);simp only[Ts]at this;rw[this]; congr 1;omega
    unfold W2 at h1;split at h1
    . rename_i op gd c1 c2;simp only[Ay]at h1;subst h1;obtain⟨s1,s2,s3,s4⟩:=hs;have hg:=ah s2 c2;simp only[Gq,y7,wpOpsIn,ho,hg];simp only[Jc]at h;rcases h with⟨g1,v,H',e1,e2⟩|⟨g1,e2⟩|⟨g1,H',e1⟩
      . simp only[g1,Bp];refine pn (mc c1) (U4 s4 s1 s2 c1 e1 (fun w' F' g' u r1 r2 r3=>?_) rfl Kt.none);exact Aa1 os xs (k+1) F' g' H' w' _ _ Ci h2 ⟨r2,(s2.mono r3.keeps).put r1 _,by rw[Sn]; exact s3,s4.mono r3.keeps⟩ e2 fun F2 g2 H2 w2 t2 a2 q1 q2 q3=>hQ F2 g2 H2 w2 t2 a2 q1 (r3.trans q2) q3
      . simp only[g1,Dp,Bq];exact⟨fun _ _=>trivial,Aa1 os xs (k+1) F g H w _ _ Ci h2 ⟨s1,s2.put Hk _,by rw[Sn]; exact s3,s4⟩ e2 hQ⟩
      simp only[g1,Bp];exact pn (mc c1) (U4 s4 s1 s2 c1 e1 (fun w' F' g' u r1 _ _=>(qu r1).elim) rfl Kt.none)
    cases h1
  cases hc
def Hz.region(h:Jc P ops t H fun t' H'=>Q .normal t' H'):Hz P ro n (.region ops) t H Q:=by
 intro c hc F g w a hs;obtain⟨id,os,rfl,hy⟩:=sg hc;refine wpIn_region ?_;have:=Aa1 (P:=P) (ro:=ro) (n:=n) (ops:=os) (Q:=fun e a' w'=>∃x t' H' F' g',e=AX.to x/\Q x t' H'/\Gk P F' g' H' w' t' a'/\Bn F g H w F' g' H' w') os.toList ops 0 F g H w t a Ab hy hs h fun F' g' H' w' t' a' q1 q2 q3=>⟨.normal,t',H',F',g',rfl,q3,q1,q2⟩;simpa[y8]using this
def Vi(P:Program)(ds:List Deferred)(F:Addr->Prop)(g:Gh)(H:List HB)(w:World)(t:List AV)(a:Act):Prop:=St F g H w/\Tm F g w t a/\a.defers=ds/\Ja P F w
def Aa0{ds:List Deferred}{ops:Array Oper}{Q:Exit->Act->World->Prop}{K:Ao->Ai->Prop} :∀(os:List Oper) (aos:B8) (k:Nat) (F:Addr->Prop) (g:Gh) (H:Ai) (w:World) (t:Ao) (a:Act),(∀ j,os[j]? =ops[k+j]?)->I4 P ops os=some aos->
 Vi P ds F g H w t a->Jc P aos t H K->(∀ F' g' H' w' t' a',Vi P ds F' g' H' w' t' a'->Bn F g H w F' g' H' w'->K t' H'->Q .normal a' w')->wpOpsIn (fz ro) n P ops Q (List.range' k os.length) a w
 | [],aos,k,F,g,H,w,t,a,_,hc,hs,h,hQ=>by
   simp only[I4,Ay]at hc;subst hc
   exact hQ F g H w t a hs (Bn.refl _ _ _ _) h
 |o::os,aos,k,F,g,H,w,t,a,hl,hc,hs,h,hQ=>by
  simp only[I4]at hc;split at hc
  . rename_i x xs h1 h2;simp only[Ay]at hc;subst hc;have ho:ops[k]? =some o:=by simpa using(hl 0).symm
    have Ci:∀j,os[j]? =ops[k+1+j]?:=fun j=>by
     have:=hl (j+1);simp only[Ts]at this;rw[this]; congr 1;omega
    unfold W2 at h1;split at h1
    . rename_i op gd c1 c2;simp only[Ay]at h1;subst h1;obtain⟨s1,s2,s3,s4⟩:=hs;have hg:=ah s2 c2;simp only[Gq,y7,wpOpsIn,ho,hg];simp only[Jc]at h;rcases h with⟨g1,v,H',e1,e2⟩|⟨g1,e2⟩|⟨g1,H',e1⟩
      . simp only[g1,Bp];refine pn (mc c1) (U4 s4 s1 s2 c1 e1 (fun w' F' g' u r1 r2 r3=>?_) rfl Kt.none);exact Aa0 os xs (k+1) F' g' H' w' _ _ Ci h2 ⟨r2,(s2.mono r3.keeps).put r1 _,by rw[Sn]; exact s3,s4.mono r3.keeps⟩ e2 fun F2 g2 H2 w2 t2 a2 q1 q2 q3=>hQ F2 g2 H2 w2 t2 a2 q1 (r3.trans q2) q3
      . simp only[g1,Dp,Bq];exact⟨fun _ _=>trivial,Aa0 os xs (k+1) F g H w _ _ Ci h2 ⟨s1,s2.put Hk _,by rw[Sn]; exact s3,s4⟩ e2 hQ⟩
      simp only[g1,Bp];exact pn (mc c1) (U4 s4 s1 s2 c1 e1 (fun w' F' g' u r1 _ _=>(qu r1).elim) rfl Kt.none)
    cases h1
  cases hc
def Az2{ds:List Deferred}{c:Code}(hc:Du P c=some (.region ops)){F:Addr->Prop}{g:Gh}{w:World}{a:Act}(hs:Vi P ds F g H w t a)(h:Jc P ops t H fun t' H'=>Q .normal t' H'):
 c.wpIn (fz ro) n P (fun e a' w'=>∃x t' H' F' g',e=AX.to x/\Q x t' H'/\Vi P ds F' g' H' w' t' a'/\Bn F g H w F' g' H' w') a w:=by
 obtain⟨id,os,rfl,hy⟩:=sg hc;refine wpIn_region ?_;have:=Aa0 (P:=P) (ro:=ro) (n:=n) (ds:=ds) (ops:=os) (Q:=fun e a' w'=>∃x t' H' F' g',e=AX.to x/\Q x t' H'/\Vi P ds F' g' H' w' t' a'/\Bn F g H w F' g' H' w') os.toList ops 0 F g H w t a Ab hy hs h fun F' g' H' w' t' a' q1 q2 q3=>⟨.normal,t',H',F',g',rfl,q3,q1,q2⟩;simpa[y8]using this
end
section
variable {F F':Addr->Prop} {g g':Gh} {H H':List HB} {w w':World}
def jy(H:List HB):Prop:=∀(b:Nat) ks,H[b]?≠some (.mp ks)
def St.owned_cells(hs:St F g H w)(Iu:jy H){b B:Nat}(hb:b<H.length)(h:g.blk b=some B):∃vs e fr,w.heap[B]? =some (.cells vs e fr):=by
 cases hH:H[b]? with
 |none=>rw[List.getElem?_eq_none_iff]at hH;omega
 |some x=>
  cases x with
  |var cs=>
   obtain⟨B',vs,e,q1,q2,q3,q4,q5⟩:=hs.var b cs hH;rw[h]at q1;cases q1
   exact⟨vs,e,_,q3⟩
  |tvar e cs=>
   obtain⟨B',vs,q1,q2,q3,q4,q5⟩:=hs.tvar b e cs hH;rw[h]at q1;cases q1
   exact⟨vs,e,_,q3⟩
  |tok n k ty=>
   obtain⟨B',cap,vs,e,fr,q1,q2,q3,q4⟩:=hs.tok b n k _ hH;rw[h]at q1;cases q1
   exact⟨vs,e,_,q3⟩
  |mp ks=>exact absurd hH (Iu b ks)
def Bn.others(hs:St F g H w)(Iu:jy H)(hx:Bn F g H w F' g' H' w'):KeepsOthers w w':=by
 refine⟨hx.size,fun k o hk ho=>?_⟩;have Af:k<w.heap.size:=(Array.getElem?_eq_some_iff.1 hk).1;rw[hx.frame k Af fun b hb e=>?_,hk];obtain⟨vs,ty,fr,hc⟩:=hs.owned_cells Iu hb e;rw[hk]at hc;cases hc;cases ho
def Fc(F:Addr->Prop)(w:World):Addr->Prop:=fun a=>F a/\(w.cell? a).isSome=true
mutual
def Wu:∀(x:AV) (v:Value),R F g w x v->R (Fc F w) g w x v
 | .bool _,_,h=>h
 | .int _ _,_,h=>h
 | .str _,_,h=>h
 | .nilp,_,h=>h
 | .nilm,_,h=>h
 | .ptr _ _,_,h=>h
 | .mapv _,_,h=>h
 | .val _,_,h=>h
 | .vsl _ _,_,h=>h
 | .nilf,_,h=>h
 | .nili,_,h=>h
 | .eptr cs,v,h=>by
   simp only[R]at h ⊢;obtain⟨B,off,h1,h2⟩:=h
   exact⟨B,off,h1,Aaf _ _ cs h2⟩
 | .sl tok els,v,h=>by
   simp only[R]at h ⊢;obtain⟨h0,h⟩:=h;refine⟨h0,?_⟩;rcases h with h|⟨B,off,sp,cap,k,h1,h2,hk,h3,h4⟩
   . exact .inl h
   exact .inr ⟨B,off,sp,cap,k,h1,h2,hk,Ahq _ _ _ els h3,h4⟩
 | .fn f first cap,v,h=>by
   simp only[R]at h ⊢;obtain⟨a1,a2,h1,h2,h3⟩:=h
   exact⟨a1,a2,h1,Pu first _ h2,Pu cap _ h3⟩
 | .iface t x,v,h=>by
   simp only[R]at h ⊢;obtain⟨u,h1,h2⟩:=h
   exact⟨u,h1,Wu x u h2⟩
 | .agg cs,v,h=>by
   simp only[R]at h ⊢;obtain⟨a,h1,h2⟩:=h
   exact⟨a,h1,Pu cs _ h2⟩
 | .tup cs,v,h=>by
   simp only[R]at h ⊢;obtain⟨a,h1,h2⟩:=h;exact⟨a,h1,Pu cs _ h2⟩
def Pu:∀(x:List AV) (v:List Value),RL F g w x v->RL (Fc F w) g w x v
 | [],_,h=>h
 |x::xs,v,h=>by
  simp only[RL]at h ⊢;obtain⟨u,r,h1,h2,h3⟩:=h;exact⟨u,r,h1,Wu x u h2,Pu xs r h3⟩
def Aaf:∀(B off:Nat) (x:List AV),RM F g w B off x->RM (Fc F w) g w B off x
 |_,_,[],h=>h
 |B,off,x::xs,h=>by
  simp only[RM]at h ⊢;obtain⟨⟨h0,v,h1,h2,h3⟩,h4⟩:=h;exact⟨⟨h0,v,⟨h1,by rw[h2]; rfl⟩,h2,Wu x v h3⟩,Aaf _ _ xs h4⟩
def Ahq:∀(B off k:Nat) (x:List (List AV)),RE F g w B off k x->RE (Fc F w) g w B off k x
 |_,_,_,[],h=>h
 |B,off,k,x::xs,h=>by
  simp only[RE]at h ⊢;obtain⟨h1,h2,h3⟩:=h;exact⟨h1,Aaf _ _ x h2,Ahq _ _ _ xs h3⟩
end
def St.cells(hs:St F g H w):St (Fc F w) g H w where
 live a h:=hs.live a h.1
 beyond:=hs.beyond
 inj:=hs.inj
 var b cs hb:=by
  obtain⟨B,vs,e,h1,h2,h3,h4,h5⟩:=hs.var b cs hb;exact⟨B,vs,e,h1,h2,h3,Pu _ _ h4,fun off h=>h5 off h.1⟩
 tok t n k ty ht:=by
  obtain⟨B,cap,vs,e,fr,h1,h2,h3,h4,h5,h6⟩:=hs.tok t n k _ ht;exact⟨B,cap,vs,e,fr,h1,h2,h3,h4,h5,fun off ho h=>h6 off ho h.1⟩
 spots b off s h:=hs.spots b off s h.1
 tvar b e cs hb:=by
  obtain⟨B,vs,h1,h2,h3,h4,h5⟩:=hs.tvar b e cs hb;exact⟨B,vs,h1,h2,h3,Pu _ _ h4,fun off h=>h5 off h.1⟩
 mp:=hs.mp
def Ja.cells{P:Program}(h:Ja P F w):Ja P (Fc F w) w where
 rng:=by
  obtain⟨h1,te,pe,h2⟩:=h.rng;exact⟨⟨h1,by rw[h2]; rfl⟩,te,pe,h2⟩
 asc c hc:=by
  obtain⟨h1,h2⟩:=h.asc c hc;exact⟨⟨h1,by rw[h2]; rfl⟩,h2⟩
 mxl:=by
  obtain⟨h1,m,h2⟩:=h.mxl;exact⟨⟨h1,by rw[h2]; rfl⟩,m,h2⟩
def Bn.cells(hx:Bn F g H w F' g' H' w')(hF:∀a,F a->(w.cell? a).isSome=true):Bn F g H w (Fc F' w') g' H' w' where
 sub a h:=⟨hx.sub a h,by rw[hx.keep a h]; exact hF a h⟩
 keep:=hx.keep
 gh:=hx.gh
 size:=hx.size
 frame:=hx.frame
 new a h:=hx.new a h.1
 blks:=hx.blks
 len:=hx.len
 io:=hx.io
section
variable {row:Option Nat}
def Fi.grown(hF:∀a,F a->(w.cell? a).isSome=true)(hg:w.grownBy w' row)(hr:∀r,row=some r->∃o:Obj,w.heap[r]? =some o/\o.isCells=false):Fi F g w F g w':=
 ⟨fun _ h=>h,fun a ha=>by
  obtain⟨v,hv⟩:=Option.isSome_iff_exists.1 (hF a ha)
  rw[hv]; exact cell_kept hv hg hr,Gh.le_refl g⟩
def St.grown(hs:St F g H w)(Iu:jy H)(hF:∀a,F a->(w.cell? a).isSome=true)(hg:w.grownBy w' row)(hr:∀r,row=some r->∃o:Obj,w.heap[r]? =some o/\o.isCells=false):St F g H w' where
 live a h:=Qp (hs.live a h) hg.size
 beyond:=hs.beyond
 inj:=hs.inj
 var b cs hb:=by
  obtain⟨B,vs,e,h1,h2,h3,h4,h5⟩:=hs.var b cs hb;exact⟨B,vs,e,h1,h2,(grownBy_keeps_cells hg hr h3 rfl).trans h3,RL.mono (Fi.grown hF hg hr) _ _ h4,h5⟩
 tvar b e cs hb:=by
  obtain⟨B,vs,h1,h2,h3,h4,h5⟩:=hs.tvar b e cs hb;exact⟨B,vs,h1,h2,(grownBy_keeps_cells hg hr h3 rfl).trans h3,RL.mono (Fi.grown hF hg hr) _ _ h4,h5⟩
 tok t n k ty ht:=by
  obtain⟨B,cap,vs,e,fr,h1,h2,h3,h4,h5,h6⟩:=hs.tok t n k _ ht;exact⟨B,cap,vs,e,fr,h1,h2,(grownBy_keeps_cells hg hr h3 rfl).trans h3,h4,h5,h6⟩
 spots:=hs.spots
 mp b ks hb:=absurd hb (Iu b ks)
def Bn.grown{F0:Addr->Prop}{g0:Gh}{H0:Ai}{w0:World}(hx:Bn F0 g0 H0 w0 F g H w)(hF:∀a,F a->(w.cell? a).isSome=true)(hg:w.grownBy w' row)(hr:∀r,row=some r->w0.heap.size<=r/\∃o:Obj,w.heap[r]? =some o/\o.isCells=false):Bn F0 g0 H0 w0 F g H w' where
 sub:=hx.sub
 keep a ha:=((Fi.grown (g:=g) hF hg fun r e=>(hr r e).2).keep a (hx.sub a ha)).trans (hx.keep a ha)
 gh:=hx.gh
 size:=Ps hx.size hg.size
 frame B hB hn:=(hg.block B (Qp hB hx.size) (fun e=>by have:=(hr B e.symm).1;omega)).trans (hx.frame B hB hn)
 new:=hx.new
 blks:=hx.blks
 len:=hx.len
 io:=⟨hg.os.trans hx.io.1,hg.output.trans hx.io.2⟩
def tp(hF:∀a,F a->(w.cell? a).isSome=true)(hg:w.grownBy w' row)(hr:∀r,row=some r->∃o:Obj,w.heap[r]? =some o/\o.isCells=false):∀a,F a->(w'.cell? a).isSome=true:=
 fun a ha=>by rw[(Fi.grown (g:=⟨fun _=>none,fun _=>none⟩) hF hg hr).keep a ha]; exact hF a ha
end
def St.none(hl:∀a,F a->a.block<w.heap.size)(Zb:∀b off s,¬F ⟨b,off,some s⟩):St F ⟨fun _=>.none,fun _=>.none⟩ [] w:=
 ⟨hl,fun _ _=>⟨rfl,rfl⟩,fun _ _ _ h=>(by cases h),fun b cs h=>(by simp at h),fun t n k ty h=>(by simp at h),Zb,fun b e cs h=>(by simp at h),fun b ks h=>(by simp at h)⟩
end
def Qj:HB->HB
 | .var cs=>.var (Ce cs)
 | .tvar e cs=>.tvar e (Ce cs)
 | .tok n k e=>.tok n k e
 | .mp ks=>.mp ks
section
variable {F F':Addr->Prop} {g g':Gh} {H H':List HB} {w w':World}
def St.strip(hs:St F g H w):St F g (H.map Qj) w where
 live:=hs.live
 beyond b hb:=hs.beyond b (by simpa using hb)
 inj:=hs.inj
 var b cs hb:=by
  rw[Vf,Ef]at hb;obtain⟨x,h1,h2⟩:=hb;cases x<;>simp only[Qj,HB.var.injEq,reduceCtorEq]at h2
  subst h2;obtain⟨B,vs,e,q1,q2,q3,q4,q5⟩:=hs.var b _ h1;exact⟨B,vs,e,q1,q2,q3,Ws _ _ q4,q5⟩
 tvar b e cs hb:=by
  rw[Vf,Ef]at hb;obtain⟨x,h1,h2⟩:=hb;cases x<;>simp only[Qj,HB.tvar.injEq,reduceCtorEq]at h2
  obtain⟨rfl,rfl⟩:=h2;obtain⟨B,vs,q1,q2,q3,q4,q5⟩:=hs.tvar b _ _ h1;exact⟨B,vs,q1,q2,q3,Ws _ _ q4,q5⟩
 tok t n k ty ht:=by
  rw[Vf,Ef]at ht;obtain⟨x,h1,h2⟩:=ht;cases x<;>simp only[Qj,HB.tok.injEq,reduceCtorEq]at h2
  obtain⟨rfl,rfl,rfl⟩:=h2;exact hs.tok t _ _ _ h1
 spots:=hs.spots
 mp b ks hb:=by
  rw[Vf,Ef]at hb;obtain⟨x,h1,h2⟩:=hb;cases x<;>simp only[Qj,HB.mp.injEq,reduceCtorEq]at h2
  subst h2;exact hs.mp b _ h1
def Bn.strip(hx:Bn F g H w F' g' H' w'):Bn F g H w F' g' (H'.map Qj) w' where
 sub:=hx.sub
 keep:=hx.keep
 gh:=hx.gh
 size:=hx.size
 frame:=hx.frame
 new:=hx.new
 blks b B hb h:=hx.blks b B (by simpa using hb) h
 len:=by simpa using hx.len
 io:=hx.io
end
def re{P:Program}{K K':List AV->List HB->Prop} :∀{l:List AO} {t:List AV} {H:List HB},Jc P l t H K->(∀ t H,K t H->K' t H)->Jc P l t H K'
 | [],_,_,h,hk=>hk _ _ h
 |o::r,t,H,h,hk=>by
  simp only[Jc]at h ⊢;rcases h with⟨h1,v,H',h2,h3⟩|⟨h1,h2⟩|h
  . exact .inl ⟨h1,v,H',h2,re h3 hk⟩
  . exact .inr (.inl ⟨h1,re h2 hk⟩)
  exact .inr (.inr h)
end
section
open Go.RowKit
def lx{F:Addr->Prop}{g:Gh}{w:World}{x y:AV}{vs:Fm}(h:RL F g w [x,y] vs):∃v u,vs=[v,u]/\R F g w x v/\R F g w y u:=by
 simp only[RL]at h;obtain⟨v,r,rfl,hv,u,r',rfl,hu,rfl⟩:=h;exact⟨v,u,rfl,hv,hu⟩
def qo{F:Addr->Prop}{g:Gh}{w:World}{x:AV}{vs:Fm}(h:RL F g w [x] vs):∃v,vs=[v]/\R F g w x v:=by
 simp only[RL]at h;obtain⟨v,r,rfl,hv,rfl⟩:=h;exact⟨v,rfl,hv⟩
def Ah3{F:Addr->Prop}{g:Gh}{w:World} :R F g w (.tup []) (.tuple #[]):=by
 simp only[R]; exact⟨#[],rfl,by simp[RL]⟩
def Arz:Qw Tryz.prog 284=true:=A5
def A7r{H:Ai}{b:Nat}{buf:AV}(hb:H[b]? =some (.tvar e [.nilp,buf]))(he:e=112\/e=114):HP 284 [.ptr b 0] H (.tup []) (H.set b (.tvar e [.ptr b 0,buf])):=by
 refine⟨Arz,fun F g w vs _ hs hr=>?_⟩;obtain⟨v,rfl,hv⟩:=qo hr;obtain⟨B,q1,q2,rfl⟩:=Nm hv;obtain⟨B',us,p1,p2,p3,p4,p5⟩:=hs.tvar b e _ hb;rw[q1]at p1;cases p1;obtain⟨nv,bv,Sh,hnv,hbv⟩:=lx p4;obtain rfl:us= #[nv,bv]:=by apply L5;simpa using Sh
 obtain rfl:nv= .pointer none:=by simpa only[R]using hnv
 have Acm:liesAt Tryz.prog Tryz.prog.depth e (2/Tryz.prog.cellsOf e) 0 112 1=true:=by
  rcases he with rfl|rfl
  . exact Ba8
  exact Ba9
 refine(A7q B e w (by simp[World.cell?,p3]) (by simp[World.shape?,p3]) Acm (by simp[World.frozen?,p3])).mono ?_;rintro _ w' ⟨rfl,rfl⟩
 have h1:(w.setCell ⟨B,0,none⟩ (.pointer (some ⟨B,0,none⟩))).heap[B]? =some (.cells #[.pointer (some ⟨B,0,none⟩),bv] e (0,0)):=by
  rw[heap_setCell_same w B 0 _ e _ p3]; rfl
 obtain⟨m1,m2⟩:=Ae0 (cs:=[.nilp,buf]) (cs':=[.ptr b 0,buf]) (e:=e) hs (.inr ⟨rfl,rfl⟩) hb q1 (w':=w.setCell ⟨B,0,none⟩ (.pointer (some ⟨B,0,none⟩))) (vs':=#[.pointer (some ⟨B,0,none⟩),bv]) (by simp only[RL]; exact⟨_,_,rfl,hv,_,_,rfl,hbv,rfl⟩) (by simp[World.setCell]) h1 (fun x hx=>heap_setCell_other w _ x _ hx) ⟨rfl,rfl⟩;exact⟨_,F,g,rfl,Ah3,m1,m2⟩
def A7t{H:Ai}{b:Nat}{buf:AV}(hb:H[b]? =some (.tvar e [.ptr b 0,buf])):HP 284 [.ptr b 0] H (.tup []) H:=by
 refine⟨Arz,fun F g w vs _ hs hr=>?_⟩;obtain⟨v,rfl,hv⟩:=qo hr;obtain⟨B,q1,q2,rfl⟩:=Nm hv;obtain⟨B',us,p1,p2,p3,p4,p5⟩:=hs.tvar b e _ hb;rw[q1]at p1;cases p1;obtain⟨nv,bv,Sh,hnv,hbv⟩:=lx p4;obtain rfl:us= #[nv,bv]:=by apply L5;simpa using Sh
 obtain⟨B2,q3,_,rfl⟩:=Nm hnv;rw[q1]at q3;cases q3;refine(A7s B w (by simp[World.cell?,p3])).mono ?_;rintro _ w' ⟨rfl,rfl⟩;exact⟨_,F,g,rfl,Ah3,hs,Bn.refl _ _ _ _⟩
def A9j{w:World}{B:Nat}(h:w.heap[B]? =some (.cells vs e fr))(n:Nat)(hn:fr.2<=n):
 (w.freeze ⟨B,0,none⟩ n).heap.size=w.heap.size/\(∃ fr',(w.freeze ⟨B,0,none⟩ n).heap[B]? =some (.cells vs e fr')/\fr'.2<=n)/\(∀ x,x≠B->(w.freeze ⟨B,0,none⟩ n).heap[x]? =w.heap[x]?)/\(w.freeze ⟨B,0,none⟩ n).os=w.os/\(w.freeze ⟨B,0,none⟩ n).output=w.output:=by
 unfold World.freeze;split
 . exact⟨rfl,⟨fr,h,hn⟩,fun _ _=>rfl,rfl,rfl⟩
 refine⟨Ab,?_,fun x hx=>by simp[xx,Ib hx],rfl,rfl⟩;obtain⟨lo,hi⟩:=fr;simp only[xx,h,Bp,Tx];refine⟨_,rfl,?_⟩;simp only at hn;split<;>simp<;>omega
def A61{w w':World}{B:Nat}{fr':Nat×Nat}(h:w.heap[B]? =some (.cells vs e fr))(h':w'.heap[B]? =some (.cells vs e fr'))(ho:∀x,x≠B->w'.heap[x]? =w.heap[x]?)(a:Addr):w'.cell? a=w.cell? a:=by
 by_cases e:a.block=B
 . unfold World.cell?;rw[e,h,h']
 exact Oa (ho _ e)
def St.refreeze{F:Addr->Prop}{g:Gh}{H:Ai}{w w':World}(hs:St F g H w){t B n k:Nat}{ty:TypeId}(ht:H[t]? =some (.tok n k ty))(hB:g.blk t=some B){fr':Nat×Nat}(h:w.heap[B]? =some (.cells vs e fr))(hz:w'.heap.size=w.heap.size)
 (h':w'.heap[B]? =some (.cells vs e fr')) (hf:fr'.2<=n*k) (hk:k=1) (he:e≠3) (ho:∀x,x≠B->w'.heap[x]? =w.heap[x]?) (Kb:w'.os=w.os/\w'.output=w.output):St F g H w'/\Bn F g H w F g H w':=by
 have hc:=A61 h h' ho;have hK:Fi F g w F g w':=⟨fun _ h=>h,fun a _=>hc a,Gh.le_refl g⟩;have Bg:∀x X,x≠t->g.blk x=some X->X≠B:=fun x X hx hX e=>hx (hs.inj x t B (by rw[hX,e]) hB);have Nt:t<H.length:=(List.getElem?_eq_some_iff.1 ht).1;refine⟨⟨fun a ha=>by rw[hz]; exact hs.live a ha,hs.beyond,hs.inj,fun b cs hb=>?_,fun x nx kx tx hx=>?_,hs.spots,fun b e' cs hb=>?_,fun b ks hb=>?_⟩,⟨fun _ h=>h,hK.keep,hK.gh,Aa,fun x hx hn=>ho x (fun e=>hn t Nt (by rw[hB,e])),fun _ h=>.inl h,fun b X hb h=>.inl ⟨hb,h⟩,Bm _,Kb⟩⟩
 . obtain⟨X,us,e',q1,q2,q3,q4,q5⟩:=hs.var b cs hb;have:X≠B:=Bg b X (fun e=>by subst e;rw[ht]at hb;cases hb) q1;exact⟨X,us,e',q1,q2,(ho X this).trans q3,RL.mono hK _ _ q4,q5⟩
 . obtain⟨X,cx,us,e',fx,q1,q2,q3,q4,q5⟩:=hs.tok x nx kx tx hx;by_cases hxt:x=t
   . subst hxt;rw[ht]at hx;cases hx;rw[hB]at q1;cases q1;rw[h]at q3;cases q3;exact⟨B,cx,vs,e,fr',hB,q2,h',⟨hf,q4.2.1,q4.2.2.1,fun h=>h.elim (absurd hk) (fun h=>absurd h he)⟩,q5⟩
   exact⟨X,cx,us,e',fx,q1,q2,(ho X (Bg x X hxt q1)).trans q3,q4,q5⟩
 . obtain⟨X,us,q1,q2,q3,q4,q5⟩:=hs.tvar b e' cs hb;have:X≠B:=Bg b X (fun e=>by subst e;rw[ht]at hb;cases hb) q1;exact⟨X,us,q1,q2,(ho X this).trans q3,RL.mono hK _ _ q4,q5⟩
 rcases hs.mp b _ hb with q|⟨X,es,ck,q1,q2,q3,q4⟩
 . exact .inl q
 have:X≠B:=Bg b X (fun e=>by subst e;rw[ht]at hb;cases hb) q1;exact .inr ⟨X,es,ck,q1,q2,(ho X this).trans q3,q4⟩
def Yn(l:List UInt8):List (List AV):=l.map fun c=>[.int .u8 c.toNat]
def A25{H:Ai}{b t:Nat}{p:AV}{l:Bu}(hl:l≠[])(hb:H[b]? =some (.tvar e [p,.sl (.own t) (Yn l)]))(ht:H[t]? =some (.tok l.length 1 5)):HP 75 [.ptr b 0] H (.str l) H:=by
 refine⟨A5,fun F g w vs _ hs hr=>?_⟩;obtain⟨v,rfl,hv⟩:=qo hr;obtain⟨B,q1,q2,rfl⟩:=Nm hv;obtain⟨B',us,p1,p2,p3,p4,p5⟩:=hs.tvar b e _ hb;rw[q1]at p1;cases p1;obtain⟨nv,bv,Sh,hnv,hbv⟩:=lx p4;obtain rfl:us= #[nv,bv]:=by apply L5;simpa using Sh
 obtain⟨M6,h|⟨D,off,sp,cap,k,rfl,c1,c2,c3,c4⟩⟩:=L7 hbv
 . exact absurd h.1 (by simpa[Yn]using hl)
 simp only[Yn,Qo]at M6 c1;obtain⟨m,c,r1,r2,r3⟩:=c4;obtain⟨X,cx,ws,el,fr,s1,s2,s3,⟨s4,s5,s6⟩,s7,s8⟩:=hs.tok t _ _ _ ht;rw[s2]at r1;cases r1;obtain⟨d1,d2,d3,d4⟩:=r3 (by simp[Yn]);rw[s1]at d1;cases d1;simp only at d2 d4;subst d2 d3 d4;obtain rfl:el=5:=s6.1 Di
 have Ih:∀j x,l[j]? =some x->w.cell? ⟨D,j,none⟩=some (.int .u8 x.toNat):=by
  intro j x hj;obtain⟨e1,e2⟩:=lw c3 j [.int .u8 x.toNat] (by simp[Yn,hj]);have hk1:k=1:=by simpa using e1.symm
  subst hk1;simp only[RM,Aac,Pt]at e2;obtain⟨⟨_,v,_,f2,f3⟩,_⟩:=e2;rw[f2,(L6 f3).1]
 simp only[Yn,Qo]at p3;refine(A26 B D l.length cap 5 ws.size l w hl (by simpa[A1]using M6) (by simp[World.cell?,p3]) c1 (by simp[World.shape?,s3]) Aa Ih).mono ?_;rintro _ w' ⟨rfl,rfl⟩;obtain⟨z1,⟨fr',z2,z3⟩,z4,z5⟩:=A9j (w:=w.drew) (B:=D) s3 l.length (by simpa using s4);obtain⟨m1,m2⟩:=hs.refreeze ht s1 s3 (w':=w.drew.freeze ⟨D,0,none⟩ l.length) z1 z2 (by simpa using z3) rfl Di z4 z5;exact⟨_,F,g,rfl,by simp only[R]; exact⟨trivial,M6⟩,m1,m2⟩
end
def Dt(n:Int):Int:=
 if 97<=n/\n<=122 then 1 else if 65<=n/\n<=90 then 2 else if 48<=n/\n<=57 then 3 else if n=95 then 4 else if n=46 then 5 else 0
def nr(n:Int):Hc 283 [.int .u8 n] (.int .i64 (Dt n)):=by
 refine Hg Bdw fun Q hQ=>?_;simp;by_cases h1:97<=n
 . by_cases h2:n<=122
   . simp[h1,h2];exact hQ (by simp[Dt,h1,h2])
   have h3:65<=n:=by omega
   have h4:¬n<=90:=Aa;have h5:48<=n:=Aa;have h6:¬n<=57:=Aa;have h7:¬n=95:=Aa;have h8:¬n=46:=Aa;simp[h1,h2,h3,h4,h5,h6,beq_eq_false_iff_ne.2 h7,beq_eq_false_iff_ne.2 h8];exact hQ (by simp[Dt,h1,h2,h3,h4,h5,h6,h7,h8])
 have c1:¬(97<=n/\n<=122):=Aa;by_cases h3:65<=n
 . by_cases h4:n<=90
   . simp[h1,h3,h4];exact hQ (by simp[Dt,h1,h3,h4])
   have h5:48<=n:=by omega
   have h6:¬n<=57:=Aa;have h8:¬n=46:=Aa;by_cases h7:n=95
   . simp[h1,h3,h4,h5,h6,beq_iff_eq.2 h7];exact hQ (by simp[Dt,h7])
   simp[h1,h3,h4,h5,h6,beq_eq_false_iff_ne.2 h7,beq_eq_false_iff_ne.2 h8];exact hQ (by simp[Dt,h1,h3,h4,h5,h6,h7,h8])
 have h7:¬n=95:=Aa;by_cases h5:48<=n
 . by_cases h6:n<=57
   . simp[h1,h3,h5,h6];exact hQ (by simp[Dt,h1,h3,h5,h6])
   have h8:¬n=46:=by omega
   simp[h1,h3,h5,h6,beq_eq_false_iff_ne.2 h7,beq_eq_false_iff_ne.2 h8];exact hQ (by simp[Dt,h1,h3,h5,h6,h7,h8])
 by_cases h8:n=46
 . simp[h1,h3,h5,beq_eq_false_iff_ne.2 h7,beq_iff_eq.2 h8];exact hQ (by simp[Dt,h8])
 simp[h1,h3,h5,beq_eq_false_iff_ne.2 h7,beq_eq_false_iff_ne.2 h8];exact hQ (by simp[Dt,h1,h3,h5,h7,h8])
def cls_1(n:Int):Dt n=1↔(97<=n/\n<=122):=by unfold Dt;(repeat' split)<;>omega
def cls_2(n:Int):Dt n=2↔(65<=n/\n<=90):=by unfold Dt;(repeat' split)<;>omega
def cls_3(n:Int):Dt n=3↔(48<=n/\n<=57):=by unfold Dt;(repeat' split)<;>omega
def cls_4(n:Int):Dt n=4↔n=95:=by unfold Dt;(repeat' split)<;>omega
def cls_5(n:Int):Dt n=5↔n=46:=by unfold Dt;(repeat' split)<;>omega
def Axq(n:Int):Hc 351 [.int .u8 n] (.bool (Dt n==1)):=by
 have e:(Dt n==1)=decide (97<=n/\n<=122):=by rw[Vd]; simp[cls_1]
 refine Hg Bfp fun Q hQ=>?_;simp;by_cases h1:97<=n<;>by_cases h2:n<=122
 all_goals
  simp[h1,h2];exact hQ
def Axm(n:Int):Hc 315 [.int .u8 n] (.bool (Dt n==2)):=by
 have e:(Dt n==2)=decide (65<=n/\n<=90):=by rw[Vd]; simp[cls_2]
 refine Hg Bfd fun Q hQ=>?_;simp;by_cases h1:65<=n<;>by_cases h2:n<=90
 all_goals
  simp[h1,h2];exact hQ
def Axn(n:Int):Hc 352 [.int .u8 n] (.bool (Dt n==3)):=by
 have e:(Dt n==3)=decide (48<=n/\n<=57):=by rw[Vd]; simp[cls_3]
 refine Hg Bfe fun Q hQ=>?_;simp;by_cases h1:48<=n<;>by_cases h2:n<=57
 all_goals
  simp[h1,h2];exact hQ
def Lo(n:Int):Bool:=!(Dt n==0||Dt n==5)
def rz(n:Int):Dt n=0\/Dt n=1\/Dt n=2\/Dt n=3\/Dt n=4\/Dt n=5:=by unfold Dt;(repeat' split)<;>omega
def Axo(n:Int):Hc 316 [.int .u8 n] (.bool (Lo n)):=by
 have e4:(n==95)=(Dt n==4):=by rw[Vd]; simp[cls_4]
 refine Hg Bfi fun Q hQ=>?_;simp;refine Ca (Axq n) ?_;simp;rcases rz n with h|h|h|h|h|h
 all_goals
  simp[h]
  first
   |refine Fh (Axm n) Ab Ab Ab ?_
    simp[h]
   |skip
  first
   |refine Fh (Axn n) Ab Ab Ab ?_
    simp[h,e4]
   |skip
  exact hQ (by simp[Lo,h])
def Bk4(s:Bu):Hc 350 [.str s] (.bool (s.all fun c=>Lo c.toNat)):=by
 refine Hf Bfs fun Am Q hQ=>?_;have B5:s.length<=1073741824:=by simpa[Bl,AV.fits,A1]using Am
 clear Am;simp;refine WL [] (fun n f h G=>∃k:Nat,k+n=s.length/\f 3= .int .i64 k/\((s.drop k).all fun c=>Lo c.toNat)=(s.all fun c=>Lo c.toNat)) (s.length) Ab ⟨0,Ab,rfl,Ab⟩ ?_;rintro n f h G ⟨k,hk,h3,hs⟩ Q2 Aj;simp[h3];by_cases Af:k<s.length
 . have hd:=Ct Af;simp[Af];refine Ca (Axo s[k].toNat) ?_;simp;cases hv:Lo s[k].toNat
   . have e:(s.all fun c=>Lo c.toNat)=false:=by rw[<- hs,hd,Er,hv]; simp
     simp;refine Aj (Lr ?_);simp;exact hQ
   simp[Au (n:=(k:Int)+1) Aa Aa];refine Aj (Ln h ?_);refine⟨k+1,Aa,Ab,?_⟩;rw[<- hs,hd,Er,hv]; simp
 have e:(s.all fun c=>Lo c.toNat)=true:=by rw[<- hs,Cm Aa]; simp
 simp[Af];refine Aj (Lx ?_);simp;exact hQ
def Oq(s:List UInt8):Bool:=decide (1<=s.length)&&decide (s.length<=24)&&s.all fun c=>Lo c.toNat
def He(s:List UInt8)(k:Int):Bool:=Oq s&&(Dt ((s.headD 0).toNat)==k)
def Axr(s:Bu):Hc 314 [.str s] (.bool (Oq s)):=by
 refine Hg Bfr fun Q hQ=>?_;simp;by_cases h1:1<=s.length
 . have h1':(1:Int)<=s.length:=by omega
   by_cases h2:s.length<=24
   . have h2':(s.length:Int)<=24:=by omega
     simp[h1',h2'];refine Ca (Bk4 s) ?_;simp;exact hQ (by simp[Oq,h1,h2])
   have h2':¬(s.length:Int)<=24:=by omega
   simp[h1',h2'];exact hQ (by simp[Oq,h1,h2])
 have h1':¬(1:Int)<=s.length:=by omega
 simp[h1'];exact hQ (by simp[Oq,h1])
def Aef(s:Bu):Hc 274 [.str s] (.bool (He s 2)):=by
 refine Hg Bfl fun Q hQ=>?_;simp;refine Ca (Axr s) ?_;simp
 cases s with
 |nil=>
  have h:Oq []=false:=by simp[Oq]
  simp[h]
  exact hQ (by simp[He,h])
 |cons c s=>
  cases h:Oq (c::s)
  . simp;exact hQ (by simp[He,h])
  simp;refine Ca (Axm c.toNat) ?_;simp;exact hQ (by simp[He,h])
def Ff(s:List UInt8):Bool:=decide (1<=s.length)&&decide (s.length<=48)&&s.all fun c=>!(Dt c.toNat==0)
def oc(s:Bu):Hc 278 [.str s] (.bool (Ff s)):=by
 refine Hf Bfj fun Am Q hQ=>?_;have B5:s.length<=1073741824:=by simpa[Bl,AV.fits,A1]using Am
 clear Am;simp;refine WL [] (fun n f h G=>∃k:Nat,k+n=s.length/\f 3= .int .i64 k/\((s.drop k).all fun c=>!(Dt c.toNat==0))=(s.all fun c=>!(Dt c.toNat==0))) (s.length) Ab ⟨0,Ab,rfl,Ab⟩ ?_;rintro n f h G ⟨k,hk,h3,hs⟩ Q2 Aj;simp[h3];by_cases Af:k<s.length
 . have hd:=Ct Af;simp[Af];refine Ca (Axo s[k].toNat) ?_;simp;have e5:(((s[k].toNat:Int) != 46):Bool)=(Dt s[k].toNat != 5):=by rw[Vd]; simp[cls_5]
   rcases rz s[k].toNat with hc|hc|hc|hc|hc|hc
   . have hv:Lo s[k].toNat=false:=by simp[Lo,hc]
     have e:(s.all fun c=>!(Dt c.toNat==0))=false:=by rw[<- hs,hd,Er,hc]; simp
     simp[hv,e5,hc,Af];refine Aj (Lr ?_);simp;exact hQ (by simp[e,Ff])
   all_goals
    have hv:Lo s[k].toNat=(Dt s[k].toNat != 5):=by simp[Lo,hc]
    simp[hv,e5,hc,Af,Au (n:=(k:Int)+1) Aa Aa];refine Aj (Ln h ?_);refine⟨k+1,Aa,Ab,?_⟩;rw[<- hs,hd,Er,hc]; simp
 have e:(s.all fun c=>!(Dt c.toNat==0))=true:=by rw[<- hs,Cm Aa]; simp
 simp[Af];refine Aj (Lx ?_);by_cases h1:1<=s.length
 . have h1':(1:Int)<=s.length:=by omega
   have h2':decide ((s.length:Int)<=48)=decide (s.length<=48):=by rw[Vd]; simp;omega
   simp[h1',h2'];exact hQ (by simp[e,Ff,h1])
 have h1':¬(1:Int)<=s.length:=by omega
 simp[h1'];exact hQ (by simp[e,Ff,h1])
def Aci{s:Bu}(h:0<s.length):s.headD 0=s[0]:=by cases s with |nil=>simp at h|cons=>rfl
def Aum(s:Bu)(q:Int):Hc 320 [.str s,.int .i64 q] (.bool (He s q)):=by
 refine Hf Bdv fun Am Q hQ=>?_;have B5:s.length<=1073741824:=by simpa[Bl,AV.fits,A1]using Am.1
 clear Am;simp;by_cases h1:s=[]
 . have e:He s q=false:=by subst h1;simp[He,Oq]
   simp[h1];exact hQ (by simp[e])
 have Gf:0<s.length:=List.length_pos_iff.2 h1;have Bg:(s==([]:Bu))=false:=by simpa using h1
 have Y7:=Aci Gf;have bw:(1<=s.length)=True:=by simp;omega
 have ja:s.isEmpty=false:=by simpa using h1
 simp[ja];by_cases h2:s.length<=24
 . have h2':¬(24:Int)<(s.length:Int):=by omega
   simp[h2',Gf];refine Ca (nr s[0].toNat) ?_;simp;refine C3 (fun hq=>?_) (fun hq=>?_)
   . have e:He s q=false:=by
      simp only[He,Y7,li]; right;simpa using hq
     simp;exact hQ
   have key:He s q=s.all fun c=>Lo c.toNat:=by
    have Ta:(Dt s[0].toNat==q)=true:=by simpa using hq
    simp only[He,Y7,Ta,Oq,bw,h2]; simp
   simp;refine WL [] (fun n f h G=>∃k:Nat,k+n=s.length/\f 25= .int .i64 k/\((s.drop k).all fun c=>Lo c.toNat)=(s.all fun c=>Lo c.toNat)) (s.length) Ab ⟨0,Ab,rfl,Ab⟩ ?_;rintro n f h G ⟨k,hk,h25,hs⟩ Q2 Aj;simp[h25];by_cases Af:k<s.length
   . have hd:=Ct Af;simp[Af];refine Ca (nr s[k].toNat) ?_;simp;rcases rz s[k].toNat with hc|hc|hc|hc|hc|hc
     all_goals
      simp[hc,Au (n:=(k:Int)+1) Aa Aa]
      first
       |refine Aj (Bb0 ?_)
        have e:He s q=false:=by rw[key,<-hs,hd,Er]; simp[Lo,hc]
        show KR _ _ Q _ _;simp
        exact hQ (by simp[e])
       |refine Aj (Ln h ?_)
        refine⟨k+1,Aa,Ab,?_⟩;rw[<- hs,hd,Er]; simp[Lo,hc]
   have e:He s q=true:=by rw[key,<-hs,Cm Aa]; simp
   simp[Af];refine Aj (Lx ?_);simp;exact hQ (by simp[e])
 have h2':(24:Int)<(s.length:Int):=by omega
 have e:He s q=false:=by simp[He,Oq,h2]
 simp[h2'];exact hQ
def Acz(s:Bu):Hc 282 [.str s] (.bool (He s 2)):=by
 refine Hg Bdr fun Q hQ=>?_;simp;refine Ca (Aum s 2) ?_;simp;exact hQ
def uq(s:Bu):Hc 217 [.str s] (.bool (Ff s)):=by
 refine Hf Bdp fun Am Q hQ=>?_;have B5:s.length<=1073741824:=by simpa[Bl,AV.fits,A1]using Am
 clear Am;simp;by_cases h1:s=[]
 . have e:Ff s=false:=by subst h1;simp[Ff]
   simp[h1];exact hQ (by simp[e])
 have Gf:0<s.length:=List.length_pos_iff.2 h1;have Bg:(s==([]:Bu))=false:=by simpa using h1
 have ja:s.isEmpty=false:=by simpa using h1
 have bw:(1<=s.length)=True:=by simp;omega
 simp[ja];by_cases h2:s.length<=48
 . have h2':¬(48:Int)<(s.length:Int):=by omega
   have key:Ff s=s.all fun c=>!(Dt c.toNat==0):=by simp only[Ff,bw,h2]; simp
   simp[h2'];refine WL [] (fun n f h G=>∃k:Nat,k+n=s.length/\f 15= .int .i64 k/\((s.drop k).all fun c=>!(Dt c.toNat==0))=(s.all fun c=>!(Dt c.toNat==0))) (s.length) Ab ⟨0,Ab,rfl,Ab⟩ ?_;rintro n f h G ⟨k,hk,h15,hs⟩ Q2 Aj;simp[h15];by_cases Af:k<s.length
   . have hd:=Ct Af;simp[Af];refine Ca (nr s[k].toNat) ?_;simp;cases hc:Dt s[k].toNat==0
     . simp[Au (n:=(k:Int)+1) Aa Aa];refine Aj (Ln h ?_);refine⟨k+1,Aa,Ab,?_⟩;rw[<- hs,hd,Er,hc]; simp
     have e:Ff s=false:=by rw[key,<-hs,hd,Er,hc]; simp
     simp;refine Aj (Lr ?_);simp;exact hQ (by simp[e])
   have e:Ff s=true:=by rw[key,<-hs,Cm Aa]; simp
   simp[Af];refine Aj (Lx ?_);simp;exact hQ (by simp[e])
 have h2':(48:Int)<(s.length:Int):=by omega
 have e:Ff s=false:=by simp[Ff,h2]
 simp[h2'];exact hQ
def Br1(s:Bu):Hc 216 [.str s] (.bool !Ff s):=by
 refine Hg Bka fun Q hQ=>?_;simp;refine Ca (uq s) ?_;simp;exact hQ
def asc:List (List UInt8)->Bool
 |a::b::r=>Op.bytesLess a b&&asc (b::r)
 |_=>true
def Aie(l:List Bu)(k:Nat)(h1:1<=k)(h:k<l.length):asc (l.drop (k-1))=(Op.bytesLess l[k-1] l[k]&&asc (l.drop k)):=by
 have e1:=Ct (l:=l) (i:=k-1) Aa;have e2:=Ct h;have e3:k-1+1=k:=Aa;rw[e3]at e1;rw[e1,e2,asc]
def Afv(l:List Bu)(k:Nat)(h:k<l.length):(At l)[k]? =some [.str l[k]]:=by simp[At,h]
def Hu(l:List Bu):(At l).length=l.length:=by simp[At]
def uo(l:List Bu):Hc 215 [.sl .none (At l)] (.bool (asc l)):=by
 refine Hf Bdo fun Am Q hQ=>?_;have B5:l.length<=1073741824:=by simpa[Bl,AV.fits,A1,At]using Am.1.1
 clear Am;simp[At];refine WL [] (fun n f h G=>∃k:Nat,1<=k/\k+n=l.length+1/\f 3= .int .i64 k/\asc (l.drop (k-1))=asc l) (l.length) Ab ⟨1,Aa,Aa,rfl,Ab⟩ ?_;rintro n f h G ⟨k,hk1,hk,h3,hs⟩ Q2 Aj;simp[h3];by_cases Af:k<l.length
 . have Gm:k-1<l.length:=by omega
   have e1:IntKind.i64.wrap ((k:Int)-1)=((k-1:Nat):Int):=by rw[Au Aa Aa]; omega
   have hd:=Aie l k hk1 Af;simp[Af];refine Wd ?_;simp[Af,Gm,e1];cases hv:Op.bytesLess l[k-1] l[k]
   . have e:asc l=false:=by rw[<- hs,hd,hv]; simp
     simp;refine Aj (Lr ?_);simp;exact hQ
   simp[Au (n:=(k:Int)+1) Aa Aa];refine Aj (Ln h ?_);refine⟨k+1,Aa,Aa,Ab,?_⟩;rw[<- hs,hd,hv]; simp
 have e:asc l=true:=by
  rw[<- hs];rcases hq:l.drop (k-1)with _|⟨a,_|⟨b,r⟩⟩
  . rfl
  . rfl
  have:=A4 List.length hq;simp at this;omega
 simp[Af];refine Aj (Lx ?_);simp;exact hQ
def Aee(l:List Bu):Hc 277 [.sl .none (At l)] (.bool (asc l)):=by
 refine Hf Bfc fun Am Q hQ=>?_;have B5:l.length<=1073741824:=by simpa[Bl,AV.fits,A1,At]using Am.1.1
 clear Am;simp[At];refine WL [] (fun n f h G=>∃k:Nat,1<=k/\k+n=l.length+1/\f 3= .int .i64 k/\asc (l.drop (k-1))=asc l) (l.length) Ab ⟨1,Aa,Aa,rfl,Ab⟩ ?_;rintro n f h G ⟨k,hk1,hk,h3,hs⟩ Q2 Aj;simp[h3];by_cases Af:k<l.length
 . have Gm:k-1<l.length:=by omega
   have e1:IntKind.i64.wrap ((k:Int)-1)=((k-1:Nat):Int):=by rw[Au Aa Aa]; omega
   have hd:=Aie l k hk1 Af;simp[Af];refine Wd ?_;simp[Af,Gm,e1];cases hv:Op.bytesLess l[k-1] l[k]
   . have e:asc l=false:=by rw[<- hs,hd,hv]; simp
     simp;refine Aj (Lr ?_);simp;exact hQ
   simp[Au (n:=(k:Int)+1) Aa Aa];refine Aj (Ln h ?_);refine⟨k+1,Aa,Aa,Ab,?_⟩;rw[<- hs,hd,hv]; simp
 have e:asc l=true:=by
  rw[<- hs];rcases hq:l.drop (k-1)with _|⟨a,_|⟨b,r⟩⟩
  . rfl
  . rfl
  have:=A4 List.length hq;simp at this;omega
 simp[Af];refine Aj (Lx ?_);simp;exact hQ
def Abs:∀(a b:List (List UInt8)),Cs (fun x y=>x==y) a b=(a==b)
 | [],[]=>rfl
 |x::xs,y::ys=>by rw[Cs,Abs xs ys]; rfl
 | [],_::_=>rfl
 |_::_,[]=>rfl
def Aeg(a b:List Bu):Hc 208 [.sl .none (At a),.sl .none (At b)] (.bool (a==b)):=by
 rw[<- Abs];refine Hf Bfo fun Am Q hQ=>?_;have B5:a.length<=1073741824:=by simpa[Bl,AV.fits,A1,At]using Am.1.1
 clear Am;simp[At];refine C3 (fun hb=>?_) (fun hb=>?_)
 . have e:Cs (fun x y=>x==y) a b=false:=Vq _ _ _ (by simp at hb;omega);simp;exact hQ
 have Oe:a.length=b.length:=by simp at hb;omega
 simp;refine WL [] (fun n f h G=>∃k:Nat,k+n=a.length/\f 5= .int .i64 k/\Cs (fun x y=>x==y) (a.drop k) (b.drop k)=Cs (fun x y=>x==y) a b) (a.length) Ab ⟨0,Ab,rfl,Ab⟩ ?_;rintro n f h G ⟨k,hk,h5,hs⟩ Q2 Aj;simp[h5];by_cases Af:k<a.length
 . have Gm:k<b.length:=by omega
   have hd:=Ct Af;have Dy:=Ct Gm;simp[Af];refine Wd ?_;simp[Af,Gm];refine C3 (fun hv=>?_) (fun hv=>?_)
   . have hv':(a[k]==b[k])=false:=by simpa using hv
     have e:Cs (fun x y=>x==y) a b=false:=by rw[<- hs,hd,Dy,Cs,hv']; rfl
     simp;refine Aj (Lr ?_);simp;exact hQ
   have hv':(a[k]==b[k])=true:=by simpa using hv
   simp[Au (n:=(k:Int)+1) Aa Aa];refine Aj (Ln h ?_);refine⟨k+1,Aa,Ab,?_⟩;rw[<- hs,hd,Dy,Cs,hv']; rfl
 have e:Cs (fun x y=>x==y) a b=true:=by rw[<- hs,Cm Aa,Cm Aa]; rfl
 simp[Af];refine Aj (Lx ?_);simp;exact hQ
def Bpk(a b:List Bu):Hc 329 [.sl .none (At a),.sl .none (At b)] (.bool (a==b)):=by
 rw[<- Abs];refine Hf Biy fun Am Q hQ=>?_;have B5:a.length<=1073741824:=by simpa[Bl,AV.fits,A1,At]using Am.1.1
 clear Am;simp[At];refine C3 (fun hb=>?_) (fun hb=>?_)
 . have e:Cs (fun x y=>x==y) a b=false:=Vq _ _ _ (by simp at hb;omega);simp;exact hQ
 have Oe:a.length=b.length:=by simp at hb;omega
 simp;refine WL [] (fun n f h G=>∃k:Nat,k+n=a.length/\f 13= .int .i64 k/\Cs (fun x y=>x==y) (a.drop k) (b.drop k)=Cs (fun x y=>x==y) a b) (a.length) Ab ⟨0,Ab,rfl,Ab⟩ ?_;rintro n f h G ⟨k,hk,Hn,hs⟩ Q2 Aj;simp[Hn];by_cases Af:k<a.length
 . have Gm:k<b.length:=by omega
   have hd:=Ct Af;have Dy:=Ct Gm;simp[Af];refine Wd ?_;simp[Af,Gm];refine C3 (fun hv=>?_) (fun hv=>?_)
   . have hv':(a[k]==b[k])=false:=by simpa using hv
     have e:Cs (fun x y=>x==y) a b=false:=by rw[<- hs,hd,Dy,Cs,hv']; rfl
     simp;refine Aj (Lr ?_);simp;exact hQ
   have hv':(a[k]==b[k])=true:=by simpa using hv
   simp[Au (n:=(k:Int)+1) Aa Aa];refine Aj (Ln h ?_);refine⟨k+1,Aa,Ab,?_⟩;rw[<- hs,hd,Dy,Cs,hv']; rfl
 have e:Cs (fun x y=>x==y) a b=true:=by rw[<- hs,Cm Aa,Cm Aa]; rfl
 simp[Af];refine Aj (Lx ?_);simp;exact hQ
section
attribute [local simp] Pe
def Bqe(s p:Bu):Hc 401 [.str s,.str p] (.bool (s.take p.length==p&&decide (p.length<=s.length))):=by
 refine Hg Bi8 fun Q hQ=>?_;simp;by_cases h:p.length<=s.length
 . have h':(p.length:Int)<=s.length:=by omega
   simp[h,h'];exact hQ
 have h':¬(p.length:Int)<=s.length:=by omega
 simp[h];exact hQ
def Q0(s p:List UInt8):Bool:=s.take p.length==p&&decide (p.length<=s.length)
def Sy(s p:List UInt8):AV:=if Q0 s p then .tup [.str (s.drop p.length),.bool true]else .tup [.str s,.bool false]
def Ar1(s p:Bu)(n:Nat):(Sy s p).inScope n=true:=by unfold Sy;split<;>simp
def Bqd(s p:Bu):Hc 397 [.str s,.str p] (Sy s p):=by
 refine Hg Bi7 fun Q hQ=>?_;simp;refine Ca (Bqe s p) ?_;cases h:Q0 s p
 . have h2:=h;unfold Q0 at h2;simp[h2];exact hQ (by simp[Sy,h])
 have h2:=h;unfold Q0 at h2;have h3:p.length<=s.length:=by simp at h2;exact h2.2
 have h4:(s.take p.length==p)=true:=by simp at h2;simp[h2.1]
 simp[h3,h4];exact hQ (by simp[Sy,h])
def Bqa(s p:Bu):Hc 385 [.str s,.str p] (Sy s p):=by
 refine Hg Bi6 fun Q hQ=>?_;simp;refine Fh (Bqd s p) Ab (Ar1 s p 0) Ab ?_;cases h:Q0 s p
 . simp[Sy,h];exact hQ (by simp[Sy,h])
 simp[Sy,h];exact hQ (by simp[Sy,h])
end
def Br4(c:Kd)(A6:∀x∈c.l,Hc 242 [Ba x] (Ba x)):Hc 242 [Ba c] (Ba c):=by
 refine Hf Bkc fun Am Q hQ=>?_;have hf:=jt (k:=c) (by simpa[Bl,Ba,AV.fits]using Am);have B5:c.l.length<=1073741824:=hf.1;clear Am hf;simp[Ba,Df c];refine WL [2] (fun n f h G=>∃k tok,k+n=c.l.length/\f 9= .int .i64 k/\h 2=[.sl tok ((c.l.map Ak).take k)]/\owns 3 G tok ((c.l.map Ak).take k) 1) c.l.length Ab ⟨0,.nilT,Ab,rfl,by simp[Fs],Fp _ _ _⟩ ?_;rintro n f h G ⟨k,tok,hk,h9,h2,Bt⟩ Q2 Aj;simp[h9,h2];by_cases Af:k<c.l.length
 . have A6:=A6 c.l[k] (Cy _);simp[Af];refine Wd ?_;simp;refine J5 (fun H=>A6.lift (by simp[Ba,A0,AV.inScope]) (by simp[Ba,AV.inScope]) H) ?_;simp[Ba,Dx];refine Yb (A:=[_,_,_]) (Lv Bt) (by simp[A1]; omega) (P7 (Ea _ _ Ac8)) Ab fun tok' G' Bv Ei=>?_;simp[Au (n:=(k:Int)+1) Aa Aa];refine Aj (Fo (n-1) (fun _=>[.sl tok' ((c.l.map Ak).take k++[Ak c.l[k]])]) rfl ?_ ?_ ?_)
   . omega
   . simp
   have e:(c.l.map Ak).take (k+1)=(c.l.map Ak).take k++[Ak c.l[k]]:=by simp[qi,Af]
   refine⟨k+1,tok',Aa,Ab,by rw[e],?_⟩;rw[e]; exact Bv
 have Dk:(c.l.map Ak).take k=c.l.map Ak:=Gj (by simp;omega);simp[Af];refine Aj (Lx ?_);simp[Dk];exact hQ (by simp[Gl,I2,Ic,Js,AV.strip,Ce,AV.inScope,A0,Be,Ba,Df c])
def Aga(c:Kd):Hc 242 [Ba c] (Ba c):=Br4 c fun x _=>Aga x
termination_by SizeOf.sizeOf c
decreasing_by exact Kd.lt_l ‹_›
section
attribute [-simp] Int.not_lt Int.not_le
def Cb{α:Type}[BEq α][LawfulBEq α][DecidableEq α](a b:α):(a==b)=decide (a=b):=by rw[Vd]; simp
def Cq{α:Type}[BEq α][LawfulBEq α][DecidableEq α](a b:α):(a != b)= !decide (a=b):=by rw[bne,Cb]
attribute [local simp] Cb Cq
def Bw(op:Int):Bool:=op==9||op==10||op==11||op==13
def Rd(op:Int):Bool:=op==7||op==8
def Dr(op:Int):Bool:=op==1||op==2||op==3
def Ng(op:Int):Bool:=op==5||op==6
def pa(c:Cn):Hc 213 [Ad c] (.bool (Bw c.op)):=by
 refine Hg Bj6 fun Q hQ=>?_;simp[Ad,Ap c]
 repeat' (first |(refine C3 (fun hb=>?_) (fun hb=>?_)<;>(try simp only[bN]at hb)<;>simp[hb,Bw])|(refine Em (fun hb=>?_) (fun hb=>?_)<;>(try simp only[bN]at hb)<;>simp[hb]))
 all_goals exact hQ (by simp[*,Bw])
def A2a(c:Cn):Hc 214 [Ad c] (.bool (Rd c.op)):=by
 refine Hg Bkd fun Q hQ=>?_;simp[Ad,Ap c]
 repeat' (first |(refine C3 (fun hb=>?_) (fun hb=>?_)<;>(try simp only[bN]at hb)<;>simp[hb,Rd])|(refine Em (fun hb=>?_) (fun hb=>?_)<;>(try simp only[bN]at hb)<;>simp[hb]))
 all_goals exact hQ (by simp[*,Rd])
def Aei(op:Int):Hc 266 [.int .i64 op] (.bool (Bw op)):=by
 refine Hg Bfz fun Q hQ=>?_;simp
 repeat' (first |(refine C3 (fun hb=>?_) (fun hb=>?_)<;>(try simp only[bN]at hb)<;>simp[hb,Bw])|(refine Em (fun hb=>?_) (fun hb=>?_)<;>(try simp only[bN]at hb)<;>simp[hb]))
 all_goals exact hQ (by simp[*,Bw])
def X0(op:Int):Hc 193 [.int .i64 op] (.bool (Dr op)):=by
 refine Hg Bg7 fun Q hQ=>?_;simp
 repeat' (first |(refine C3 (fun hb=>?_) (fun hb=>?_)<;>(try simp only[bN]at hb)<;>simp[hb,Dr])|(refine Em (fun hb=>?_) (fun hb=>?_)<;>(try simp only[bN]at hb)<;>simp[hb]))
 all_goals exact hQ (by simp[*,Dr])
def xc(op:Int):Hc 227 [.int .i64 op] (.bool (Dr op)):=by
 refine Hg Bib fun Q hQ=>?_;simp
 repeat' (first |(refine C3 (fun hb=>?_) (fun hb=>?_)<;>(try simp only[bN]at hb)<;>simp[hb,Dr])|(refine Em (fun hb=>?_) (fun hb=>?_)<;>(try simp only[bN]at hb)<;>simp[hb]))
 all_goals exact hQ (by simp[*,Dr])
def W6(c:Cn):Int:=if c.op<1\/13<c.op then -1 else if Rd c.op then c.names.length else if Bw c.op then 1 else if c.op==6||c.op==12 then 2 else 0
def Br5(c:Cn):Hc 211 [Ad c] (.int .i64 (W6 c)):=by
 refine Hg Bkg fun Q hQ=>?_;simp[Ad,Ap c]
 repeat' (first |(refine C3 (fun hb=>?_) (fun hb=>?_)<;>(try simp only[bN]at hb)<;>simp[hb])|(refine Em (fun hb=>?_) (fun hb=>?_)<;>(try simp only[bN]at hb)<;>simp[hb])|(refine Fh (A2a c) Ab Ab (by simp[Ad,Ap,At,Kd.l, *]) ?_;simp)|(refine Fh (pa c) Ab Ab (by simp[Ad,Ap,At,Kd.l, *]) ?_;simp))
 all_goals (refine hQ ?_;simp[W6,At, *])
 all_goals simp[Rd,Bw]
def dl(op:Int):Int:=if op==6||op==12 then 2 else if Rd op then -1 else if Bw op then 1 else 0
def Blo(op:Int):Hc 304 [.int .i64 op] (.int .i64 (dl op)):=by
 refine Hg Bgn fun Q hQ=>?_;simp
 repeat' (first |(refine C3 (fun hb=>?_) (fun hb=>?_)<;>(try simp only[bN]at hb)<;>simp[hb])|(refine Em (fun hb=>?_) (fun hb=>?_)<;>(try simp only[bN]at hb)<;>simp[hb])|(refine Fh (Aei op) Ab Ab (by simp[*]) ?_;simp))
 all_goals exact hQ (by simp[*,dl,Rd])
def Ch(n:Int):Cn:=.mk 1 n [] (.mk []) [] []
def E3(op:Int)(a b:Cn):Cn:=.mk op 0 [] (.mk []) [] [a,b]
def Ie(op:Int)(k:Kd)(c:Cn):Cn:=.mk op 0 [] k [] [c]
def Ys:Cn:=.mk 7 0 [] (.mk []) [] []
def A3:Cn:=.mk 0 0 [] (.mk []) [] []
def W5(c:Cn):Cn:=.mk c.op c.n c.s c.k [] []
def Fj(op n:Int)(s:Bu)(k:Kd)(names:List Bu)(l:Ax):Ag (.mk op n s k names l)=[.int .i64 op,.int .i64 n,.str s,.sl .none (k.l.map Ak),.sl .none (At names),.sl .none (l.map Ag)]:=Ap _
def Pi:At []=[]:=rfl
def Kd.l_mk(l:B6):(Kd.mk l).l=l:=rfl
def A2c(n:Int):Hc 170 [.int .i64 n] (Ad (Ch n)):=by
 refine Hg Bkl fun Q hQ=>?_;simp;exact hQ (by simp[Ad,Ch,Fj,Pi,Kd.l_mk])
def Aek(n:Int):Hc 113 [.int .i64 n] (Ad (Ch n)):=by
 refine Hg Bgd fun Q hQ=>?_;simp;exact hQ (by simp[Ad,Ch,Fj,Pi,Kd.l_mk])
def Bru:Hc 301 [] (Ad Ys):=by
 refine Hg Bj2 fun Q hQ=>?_;simp;exact hQ (by simp[Ad,Ys,Fj,Pi,Kd.l_mk])
def Blg:Hc 313 [] (Ad Ys):=by
 refine Hg Bga fun Q hQ=>?_;simp;exact hQ (by simp[Ad,Ys,Fj,Pi,Kd.l_mk])
def Abq(a b:Cn):Hc 300 [Ad a,Ad b] (Ad (E3 6 a b)):=by
 refine Hg Bdd fun Q hQ=>?_;simp[Ad];exact hQ (by simp[Ad,E3,Fj,Pi,Kd.l_mk])
def Aeh(a b:Cn):Hc 312 [Ad a,Ad b] (Ad (E3 6 a b)):=by
 refine Hg Bfy fun Q hQ=>?_;simp[Ad];exact hQ (by simp[Ad,E3,Fj,Pi,Kd.l_mk])
def Bk7(a b:Cn):Hc 348 [Ad a,Ad b] (Ad (E3 12 a b)):=by
 refine Hg Bfx fun Q hQ=>?_;simp[Ad];exact hQ (by simp[Ad,E3,Fj,Pi,Kd.l_mk])
def wb(op:Int)(k:Kd)(c:Cn):Hc 270 [.int .i64 op,Ba k,Ad c] (Ad (Ie op k c)):=by
 refine Hg Bf0 fun Q hQ=>?_;simp[Ad,Ba,Df k];exact hQ (by simp[Ad,Ie,Fj,Pi])
def xn(c:Cn):Hc 169 [Ad c] (Ad (W5 c)):=by
 refine Hg Bke fun Q hQ=>?_;simp[Ad,Ap c];refine Wd ?_;simp;refine Da (Aga c.k) ?_;simp[Ba,Df c.k];exact hQ (by simp[Ad,W5,Fj,Pi])
def wc(c:Cn)(d:Int):Hc 195 [Ad c,.int .i64 d] (.int .i64 (if Bw c.op then IntKind.i64.wrap (d+1)else d)):=by
 refine Hg Bgh fun Q hQ=>?_;simp[Ad,Ap c];refine Ca (Aei c.op) ?_;cases h:Bw c.op
 . simp;exact hQ
 simp;exact hQ
def Axz(c:Cn)(l:Ax):Hc 196 [Ad c,.sl .none (l.map Ag)] (Ad (.mk c.op c.n c.s c.k c.names l)):=by
 refine Hg Bgk fun Q hQ=>?_;simp[Ad,Ap c];exact hQ (by simp[Ad,Fj])
end
section
attribute [-simp] Int.not_lt Int.not_le
attribute [local simp] Cb Cq
def C7.nilOr{P:Program}{f:FuncId}{H H':Ai}{res:AV}{A B:Ao}(h1:C7 P f (A++ .sl .nilT []::B) H res H')(h2:C7 P f (A++ .sl .nn []::B) H res H'):C7 P f (A++ .sl .none []::B) H res H':=by
 refine⟨h1.1,fun F g w vs hG hs hr=>?_⟩
 have split:∀(A:Ao) (vs:Fm),RL F g w (A++ .sl .none []::B) vs->RL F g w (A++ .sl .nilT []::B) vs\/RL F g w (A++ .sl .nn []::B) vs:=by
  intro A
  induction A with
  |nil=>
   intro vs h;simp only[Gx,RL]at h ⊢;obtain⟨v,r,rfl,hv,hr⟩:=h;simp only[R]at hv;obtain⟨h0,⟨_,rfl,_⟩|⟨B',off,sp,cap,k,rfl,hc,hk,he,ht⟩⟩:=hv
   . exact .inl ⟨_,r,rfl,by unfold R;exact⟨h0,.inl ⟨rfl,rfl,Ab,Ab⟩⟩,hr⟩
   exact .inr ⟨_,r,rfl,by unfold R;exact⟨h0,.inr ⟨B',off,sp,cap,k,rfl,hc,⟨hk.1,.inl rfl⟩,he,trivial⟩⟩,hr⟩
  |cons a A ih=>
   intro vs h;simp only[Gb,RL]at h ⊢;obtain⟨v,r,rfl,hv,hr⟩:=h;rcases ih r hr with h|h
   . exact .inl ⟨v,r,rfl,hv,h⟩
   exact .inr ⟨v,r,rfl,hv,h⟩
 rcases split A vs hr with h|h
 . exact h1.2 F g w vs hG hs h
 exact h2.2 F g w vs hG hs h
def dy(l:List Bu):Hc 234 [.sl .none (At l)] (.sl .none (At l)):=by
 cases l with
 |nil=>
  refine C7.nilOr (A:=[]) (B:=[]) ?_ ?_
  . refine Hg Aeb fun Q hQ=>?_;simp[Lp];exact hQ (by simp[At])
  refine Hg Aeb fun Q hQ=>?_;simp[Lp,Ey,A1,D3,Id]
  exact hQ (by simp[At])
 |cons s l=>
  refine Hf Aeb fun Am Q hQ=>?_;have B5:l.length+1<=A1:=by simpa[Bl,AV.fits,At]using Am.1.1
  clear Am;simp[Lp,At,Ey,B5,D3,Id];exact hQ (by simp[At])
def Bpo(l:Ax)(p:Cn->Bool)(n:Nat)(hp:∀x∈l,Hc n [Ad x] (.bool (p x))):
 Hc 149 [.sl .none (l.map Ag),.fn (.func n) [] []] (.int .i64 (Et p l 0)):=by
 refine Hf Axb fun Am Q hQ=>?_;have B5:l.length<=1073741824:=by simpa[Bl,AV.fits,A1]using Am.1.1
 clear Am;simp;refine WL [] (fun n f h G=>∃k:Nat,k+n=l.length/\f 8= .int .i64 k/\Et p (l.drop k) k=Et p l 0) (l.length) Ab ⟨0,Ab,rfl,Ab⟩ ?_;rintro n f h G ⟨k,hk,h8,hs⟩ Q2 Aj;simp[h8];by_cases Af:k<l.length
 . have hd:=Ct Af;simp[Af];refine Ca (hp l[k] (Cy _)) ?_;simp;refine C3 (fun hb=>?_) (fun hb=>?_)
   . have e:Et p l 0=k:=by rw[<- hs,hd]; simp[Et,hb]
     simp;refine Aj (Lr ?_);simp;exact hQ
   simp[Au (n:=(k:Int)+1) Aa Aa];refine Aj (Ln h ?_);refine⟨k+1,Aa,Ab,?_⟩;rw[<- hs,hd]; simp[Et,hb]
 have e:Et p l 0= -1:=by rw[<- hs,Cm Aa]; simp[Et]
 simp[Af];refine Aj (Lx ?_);simp;exact hQ
def U9(l:Ax)(p:Cn->Bool)(n:Nat)(hp:∀x∈l,Hc n [Ad x] (.bool (p x))):
 Hc 84 [.sl .none (l.map Ag),.fn (.func n) [] []] (.bool (l.any p)):=by
 refine Hg Aw9 fun Q hQ=>?_;simp;refine Ca (Bpo l p n hp) ?_;simp;exact hQ (by simp[jl])
def Bpu(l:List Bu)(p:Bu->Bool)(n:Nat)(hp:∀x∈l,Hc n [.str x] (.bool (p x))):
 Hc 145 [.sl .none (At l),.fn (.func n) [] []] (.int .i64 (Et p l 0)):=by
 refine Hf Bi2 fun Am Q hQ=>?_;have B5:l.length<=1073741824:=by simpa[Bl,AV.fits,A1,At]using Am.1.1
 clear Am;simp[At];refine WL [] (fun n f h G=>∃k:Nat,k+n=l.length/\f 8= .int .i64 k/\Et p (l.drop k) k=Et p l 0) (l.length) Ab ⟨0,Ab,rfl,Ab⟩ ?_;rintro n f h G ⟨k,hk,h8,hs⟩ Q2 Aj;simp[h8];by_cases Af:k<l.length
 . have hd:=Ct Af;simp[Af];refine Ca (hp l[k] (Cy _)) ?_;simp;refine C3 (fun hb=>?_) (fun hb=>?_)
   . have e:Et p l 0=k:=by rw[<- hs,hd]; simp[Et,hb]
     simp;refine Aj (Lr ?_);simp;exact hQ
   simp[Au (n:=(k:Int)+1) Aa Aa];refine Aj (Ln h ?_);refine⟨k+1,Aa,Ab,?_⟩;rw[<- hs,hd]; simp[Et,hb]
 have e:Et p l 0= -1:=by rw[<- hs,Cm Aa]; simp[Et]
 simp[Af];refine Aj (Lx ?_);simp;exact hQ
def ou(l:List Bu)(p:Bu->Bool)(n:Nat)(hp:∀x∈l,Hc n [.str x] (.bool (p x))):
 Hc 79 [.sl .none (At l),.fn (.func n) [] []] (.bool (l.any p)):=by
 refine Hg Biu fun Q hQ=>?_;simp;refine Ca (Bpu l p n hp) ?_;simp;exact hQ (by simp[jl])
mutual
def Gd:Cn->Cn->Bool
 | .mk o n s k ns l,.mk o' n' s' k' ns' l'=>o==o'&&n==n'&&s==s'&&Kg k k'&&ns==ns'&&Vn l l'
def Vn:List Cn->List Cn->Bool
 | [],[]=>true
 |x::xs,y::ys=>Gd x y&&Vn xs ys
 |_,_=>false
end
def Arq:∀(a b:List Cn),Vn a b=Cs Gd a b
 | [],[]=>by simp[Vn,Cs]
 |x::xs,y::ys=>by simp[Vn,Cs,Arq xs ys]
 | [],_::_=>by simp[Vn,Cs]
 |_::_,[]=>by simp[Vn,Cs]
def md(a b:Cn):Gd a b=(a.op==b.op&&a.n==b.n&&a.s==b.s&&Kg a.k b.k&&a.names==b.names&&Cs Gd a.l b.l):=by
 cases a;cases b;simp[Gd,Arq,Cn.op,Cn.n,Cn.s,Cn.k,Cn.names,Cn.l]
def Bpi(a b:Ax)(p:Cn->Cn->Bool)(m:Nat)(hp:∀x∈a,∀y,Hc m [Ad x,Ad y] (.bool (p x y))):
 Hc 330 [.sl .none (a.map Ag),.sl .none (b.map Ag),.fn (.func m) [] []] (.bool (Cs p a b)):=by
 refine Hf Biw fun Am Q hQ=>?_;have B5:a.length<=1073741824:=by simpa[Bl,AV.fits,A1]using Am.1.1
 clear Am;simp;refine C3 (fun hb=>?_) (fun hb=>?_)
 . have e:Cs p a b=false:=Vq _ _ _ (by simp at hb;omega);simp;exact hQ
 have Oe:a.length=b.length:=by simp at hb;omega
 simp;refine WL [] (fun n f h G=>∃k:Nat,k+n=a.length/\f 17= .int .i64 k/\Cs p (a.drop k) (b.drop k)=Cs p a b) (a.length) Ab ⟨0,Ab,rfl,Ab⟩ ?_;rintro n f h G ⟨k,hk,R5,hs⟩ Q2 Aj;simp[R5];by_cases Af:k<a.length
 . have Gm:k<b.length:=by omega
   have hd:=Ct Af;have Dy:=Ct Gm;simp[Af,Gm];refine Ca (hp a[k] (Cy _) b[k]) ?_;simp;cases hv:p a[k] b[k]
   . have e:Cs p a b=false:=by rw[<- hs,hd,Dy]; simp[Cs,hv]
     simp;refine Aj (Lr ?_);simp;exact hQ
   simp[Au (n:=(k:Int)+1) Aa Aa];refine Aj (Ln h ?_);refine⟨k+1,Aa,Ab,?_⟩;rw[<- hs,hd,Dy]; simp[Cs,hv]
 have e:Cs p a b=true:=by rw[<- hs,Cm Aa,Cm Aa]; simp[Cs]
 simp[Af];refine Aj (Lx ?_);simp;exact hQ
def Brn(a b:Cn)(A6:∀x∈a.l,∀y,Hc 288 [Ad x,Ad y] (.bool (Gd x y))):
 Hc 288 [Ad a,Ad b] (.bool (Gd a b)):=by
 have key:=md a b;refine Hg Bjx fun Q hQ=>?_;simp[Ad,Ap a,Ap b]
 repeat' (first |(refine C3 (fun hb=>?_) (fun hb=>?_)<;>(try simp only[bN]at hb)<;>simp[hb,key])|(refine Em (fun hb=>?_) (fun hb=>?_)<;>(try simp only[bN]at hb)<;>simp[hb])|(refine Fh (A2b a.k b.k) Ab Ab (by simp[Ba,Df,Kd.l, *]) ?_;simp)|(refine Fh (Bpk a.names b.names) Ab Ab (by simp[At, *]) ?_;simp)|(refine Fh (Bpi a.l b.l Gd _ A6) Ab Ab (by simp[*]) ?_;simp))
 all_goals exact hQ
def Af8(a b:Cn):Hc 288 [Ad a,Ad b] (.bool (Gd a b)):=
 Brn a b fun x _ y=>Af8 x y
termination_by SizeOf.sizeOf a
decreasing_by exact Cn.lt_l ‹_›
def Blc(a b:Cn)(A6:∀x∈a.l,∀y,Hc 207 [Ad x,Ad y] (.bool (Gd x y))):
 Hc 207 [Ad a,Ad b] (.bool (Gd a b)):=by
 have key:=md a b;refine Hf Bf4 fun Am Q hQ=>?_;have hf:=Mv (c:=a) (by simpa[Bl,Ad,AV.fits]using Am.1);have B5:a.l.length<=1073741824:=hf.2.2.2.2.2.2.2.1;clear Am hf;simp[Ad,Ap a,Ap b];by_cases Oe:a.l.length=b.l.length
 . repeat' (first |(refine C3 (fun hb=>?_) (fun hb=>?_)<;>(try simp only[bN]at hb)<;>simp[hb])|(refine Em (fun hb=>?_) (fun hb=>?_)<;>(try simp only[bN]at hb)<;>simp[hb,Oe])|(refine Fh (od a.k b.k) Ab Ab (by simp[Ba,Df,Kd.l, *]) ?_;simp)|(refine Fh (Aeg a.names b.names) Ab Ab (by simp[At, *]) ?_;simp))
   all_goals try(refine hQ ?_;simp[*]; done)
   have key2:Gd a b=Cs Gd a.l b.l:=by rw[key]; simp[*]
   refine WL [] (fun n f h G=>∃k:Nat,k+n=b.l.length/\f 5= .int .i64 k/\Cs Gd (a.l.drop k) (b.l.drop k)=Gd a b) (b.l.length) Ab ⟨0,Ab,rfl,by simp[key2]⟩ ?_;rintro n f h G ⟨k,hk,h5,hs⟩ Q2 Aj;simp[h5,Oe];by_cases Af:k<b.l.length
   . have Gm:k<a.l.length:=by omega
     have hd:=Ct Af;have Dy:=Ct Gm;simp[Af];refine Wd ?_;simp[Af,Gm];refine Da (A6 a.l[k] (Cy _) b.l[k]) ?_;simp;cases hv:Gd a.l[k] b.l[k]
     . have e:Gd a b=false:=by rw[<- hs,hd,Dy]; simp[Cs,hv]
       simp;refine Aj (Lr ?_);simp;exact hQ (by simp[e])
     simp[Au (n:=(k:Int)+1) Aa Aa];refine Aj (Ln h ?_);refine⟨k+1,Aa,Ab,?_⟩;rw[<- hs,hd,Dy]; simp[Cs,hv]
   have e:Gd a b=true:=by rw[<- hs,Cm Aa,Cm Aa]; simp[Cs]
   simp[Af];refine Aj (Lx ?_);simp;exact hQ (by simp[e])
 have e:Gd a b=false:=by rw[key,Vq _ _ _ Oe]; simp
 repeat' (first |(refine C3 (fun hb=>?_) (fun hb=>?_)<;>(try simp only[bN]at hb)<;>simp[hb])|(refine Em (fun hb=>?_) (fun hb=>?_)<;>(try simp only[bN]at hb)<;>simp[hb])|(refine Fh (od a.k b.k) Ab Ab (by simp[Ba,Df,Kd.l, *]) ?_;simp)|(refine Fh (Aeg a.names b.names) Ab Ab (by simp[At, *]) ?_;simp))
 all_goals first |(refine hQ ?_;simp[e]; done)|(exfalso;omega)
def Aej(a b:Cn):Hc 207 [Ad a,Ad b] (.bool (Gd a b)):=
 Blc a b fun x _ y=>Aej x y
termination_by SizeOf.sizeOf a
decreasing_by exact Cn.lt_l ‹_›
def E9:Ag A3=[.int .i64 0,.int .i64 0,.str [],   .sl .none [],.sl .none [],.sl .none []]:=by simp[A3,Fj,Kd.l_mk,Pi]
mutual
def Al:Cn->Nat
 | .mk _ _ _ _ _ l=>1+Bd l
def Bd:List Cn->Nat
 | []=>0
 |c::cs=>Al c+Bd cs
end
mutual
def Bo:Cn->Nat
 | .mk _ _ _ _ _ l=>Cz l+1
def Cz:List Cn->Nat
 | []=>0
 |c::cs=>max (Bo c) (Cz cs)
end
def me(l:Ax)(k:Nat)(h:k<l.length):Bd (l.take (k+1))=Bd (l.take k)+Al l[k]:=by
 induction l generalizing k with
 |nil=>simp at h
 |cons c l ih=>
  cases k with
  |zero=>simp[Bd]
  |succ k=>simp[Bd,ih k (by simpa using h)]; omega
def Abm(l:Ax)(k:Nat):Bd (l.take k)<=Bd l:=by
 induction l generalizing k with
 |nil=>simp
 |cons c l ih=>cases k with
  |zero=>simp[Bd]
  |succ k=>simp[Bd]; exact ih k
def Ir(c:Cn):Al c=1+Bd c.l:=by cases c;simp[Al,Cn.l]
def Jt(c:Cn):Bo c=Cz c.l+1:=by cases c;simp[Bo,Cn.l]
def Yr{l:Ax}{x:Cn}(h:x∈l):Al x<=Bd l:=by
 induction l with
 |nil=>cases h
 |cons c l ih=>
  rcases List.mem_cons.1 h with rfl|h
  . simp[Bd]
  have:=ih h;simp[Bd]; omega
def Yq{l:Ax}{x:Cn}(h:x∈l):Bo x<=Cz l:=by
 induction l with
 |nil=>cases h
 |cons c l ih=>
  rcases List.mem_cons.1 h with rfl|h
  . simp[Cz]; omega
  have:=ih h;simp[Cz]; omega
mutual
def A7f:∀c:Cn,Bo c<=Al c
 | .mk _ _ _ _ _ l=>by have:=sj l;simp only[Bo,Al]; omega
def sj:∀l:List Cn,Cz l<=Bd l
 | []=>by simp[Cz,Bd]
 |c::cs=>by have:=A7f c;have:=sj cs;simp only[Cz,Bd]; omega
end
def Aro(l:Ax)(k:Nat)(h:k<l.length):Cz (l.take (k+1))=max (Cz (l.take k)) (Bo l[k]):=by
 induction l generalizing k with
 |nil=>simp at h
 |cons c l ih=>
  cases k with
  |zero=>simp[Cz]
  |succ k=>simp[Cz,ih k (by simpa using h),Nat.max_assoc]
def Brs(c:Cn)(hc:Al c<=1000000000000)(A6:∀x∈c.l,Hc 130 [Ad x] (.int .i64 (Al x))):Hc 130 [Ad c] (.int .i64 (Al c)):=by
 have hz:=Ir c;refine Hf Bjz fun Am Q hQ=>?_;have hf:=Mv (c:=c) (by simpa[Bl,Ad,AV.fits]using Am);have B5:c.l.length<=1073741824:=hf.2.2.2.2.2.2.2.1;clear Am hf;simp[Ad,Ap c];refine WL [] (fun n f h G=>∃k,k+n=c.l.length/\f 9= .int .i64 k/\f 3= .int .i64 (1+Bd (c.l.take k))) (c.l.length) Ab ⟨0,Ab,rfl,rfl⟩ ?_;rintro n f h G ⟨k,hk,h9,h3⟩ Q2 Aj;simp[h9,h3];by_cases Af:k<c.l.length
 . have ht:=me c.l k Af;have hle:=Abm c.l (k+1);simp[Af];refine Ca (A6 c.l[k] (Cy _)) ?_;simp[Au (n:=(k:Int)+1) Aa Aa,Au (n:=1+(Bd (c.l.take k):Int)+Al c.l[k]) Aa Aa];refine Aj (Ln h ?_);refine⟨k+1,Aa,Ab,?_⟩;simp[ht]; omega
 have Dk:c.l.take k=c.l:=Gj Aa;simp[Af];refine Aj (Lx ?_);simp;exact hQ
def k8(c:Cn)(hc:Al c<=1000000000000):Hc 130 [Ad c] (.int .i64 (Al c)):=
 Brs c hc fun x hx=>k8 x (by have:=Yr hx;have:=Ir c;omega)
termination_by SizeOf.sizeOf c
decreasing_by exact Cn.lt_l ‹_›
def Ble(c:Cn)(hc:Al c<=1000000000000)(A6:∀x∈c.l,Hc 60 [Ad x] (.int .i64 (Al x))):Hc 60 [Ad c] (.int .i64 (Al c)):=by
 have hz:=Ir c;refine Hf Bf7 fun Am Q hQ=>?_;have hf:=Mv (c:=c) (by simpa[Bl,Ad,AV.fits]using Am);have B5:c.l.length<=1073741824:=hf.2.2.2.2.2.2.2.1;clear Am hf;simp[Ad,Ap c];refine WL [] (fun n f h G=>∃k,k+n=c.l.length/\f 4= .int .i64 k/\f 3= .int .i64 (1+Bd (c.l.take k))) (c.l.length) Ab ⟨0,Ab,rfl,rfl⟩ ?_;rintro n f h G ⟨k,hk,h4,h3⟩ Q2 Aj;simp[h4,h3];by_cases Af:k<c.l.length
 . have ht:=me c.l k Af;have hle:=Abm c.l (k+1);simp[Af];refine Ca (A6 c.l[k] (Cy _)) ?_;simp[Au (n:=(k:Int)+1) Aa Aa,Au (n:=1+(Bd (c.l.take k):Int)+Al c.l[k]) Aa Aa];refine Aj (Ln h ?_);refine⟨k+1,Aa,Ab,?_⟩;simp[ht]; omega
 have Dk:c.l.take k=c.l:=Gj Aa;simp[Af];refine Aj (Lx ?_);simp;exact hQ
def dg(c:Cn)(hc:Al c<=1000000000000):Hc 60 [Ad c] (.int .i64 (Al c)):=
 Ble c hc fun x hx=>dg x (by have:=Yr hx;have:=Ir c;omega)
termination_by SizeOf.sizeOf c
decreasing_by exact Cn.lt_l ‹_›
def Bry(c:Cn)(hc:Al c<=1000000000000)(A6:∀x∈c.l,Hc 131 [Ad x] (.int .i64 (Bo x))):Hc 131 [Ad c] (.int .i64 (Bo c)):=by
 have hz:=Jt c;have hz2:=sj c.l;have hz3:=Ir c;refine Hf Bj8 fun Am Q hQ=>?_;have hf:=Mv (c:=c) (by simpa[Bl,Ad,AV.fits]using Am);have B5:c.l.length<=1073741824:=hf.2.2.2.2.2.2.2.1;clear Am hf;simp[Ad,Ap c];refine WL [] (fun n f h G=>∃k,k+n=c.l.length/\f 9= .int .i64 k/\f 3= .int .i64 (Cz (c.l.take k))) (c.l.length) Ab ⟨0,Ab,rfl,rfl⟩ ?_;rintro n f h G ⟨k,hk,h9,h3⟩ Q2 Aj;simp[h9,h3];by_cases Af:k<c.l.length
 . have ht:=Aro c.l k Af;simp[Af];refine Ca (A6 c.l[k] (Cy _)) ?_;simp[Au (n:=(k:Int)+1) Aa Aa,cn,Xw];refine Aj (Ln h ?_);refine⟨k+1,Aa,Ab,?_⟩;simp[ht]; split<;>omega
 have Dk:c.l.take k=c.l:=Gj Aa;simp[Af];refine Aj (Lx ?_);simp[Dk,Au (n:=(Cz c.l:Int)+1) Aa Aa];exact hQ
def A17(c:Cn)(hc:Al c<=1000000000000):Hc 131 [Ad c] (.int .i64 (Bo c)):=
 Bry c hc fun x hx=>A17 x (by have:=Yr hx;have:=Ir c;omega)
termination_by SizeOf.sizeOf c
decreasing_by exact Cn.lt_l ‹_›
mutual
def Nw:Cn->Int->Int->Int
 | .mk _ _ _ _ _ l,left,depth=>if 400<depth then left else Qi l left depth 1
def Qi:List Cn->Int->Int->Int->Int
 | [],_,_,n=>n
 |x::xs,left,depth,n=>if n<left then Qi xs left depth (n+Nw x (left-n) (depth+1))else n
end
def Ay0(c:Cn)(left depth:Int):Nw c left depth=if 400<depth then left else Qi c.l left depth 1:=by cases c;simp[Nw,Cn.l]
mutual
def Ae1:∀(c:Cn) (left depth:Int),1<=left->1<=Nw c left depth/\Nw c left depth<=left
 | .mk _ _ _ _ _ l,left,depth,h=>by
   simp only[Nw]; split
   . omega
   exact Ay2 l left depth 1 Aa h
def Ay2:∀(l:List Cn) (left depth n:Int),1<=n->n<=left->1<=Qi l left depth n/\Qi l left depth n<=left
 | [],_,_,n,h,h'=>by simp only[Qi]; omega
 |x::xs,left,depth,n,h,h'=>by
  simp only[Qi]; split
  . have:=Ae1 x (left-n) (depth+1) Aa;exact Ay2 xs left depth _ Aa Aa
  omega
end
def Blj(c:Cn)(left depth:Int)(hl:1<=left)(S7:left<=20001)(Lh:0<=depth)(hd:depth<=1000)
 (A6:∀x∈c.l,∀left depth,1<=left->left<=20001->0<=depth->depth<=1000->Hc 259 [Ad x,.int .i64 left,.int .i64 depth] (.int .i64 (Nw x left depth))):
 Hc 259 [Ad c,.int .i64 left,.int .i64 depth] (.int .i64 (Nw c left depth)):=by
 refine Hf Bgg fun Am Q hQ=>?_;have hf:=Mv (c:=c) (by simpa[Bl,Ad,AV.fits]using Am.1);have B5:c.l.length<=1073741824:=hf.2.2.2.2.2.2.2.1;clear Am hf;simp[Ad,Ap c];by_cases h1:400<depth
 . have e:Nw c left depth=left:=by rw[Ay0]; simp[h1]
   simp[h1];exact hQ
 have key:Nw c left depth=Qi c.l left depth 1:=by rw[Ay0]; simp[h1]
 simp[h1];refine WL [] (fun n f h G=>∃(k:Nat) (m:Int),k+n=c.l.length/\f 8= .int .i64 k/\f 7= .int .i64 m/\1<=m/\m<=left/\Qi (c.l.drop k) left depth m=Nw c left depth) (c.l.length) Ab ⟨0,1,Ab,rfl,rfl,Aa,Aa,by simp[key]⟩ ?_;rintro n f h G ⟨k,m,hk,h8,h7,Sf,hm2,hs⟩ Q2 Aj;simp[h8,h7];by_cases Af:k<c.l.length
 . have Fz:=Ct Af;by_cases S8:m<left
   . have hrc:=Ae1 c.l[k] (left-m) (depth+1) Aa;have A6:=A6 c.l[k] (Cy _) (left-m) (depth+1) Aa Aa Aa Aa;simp[Af,S8,Au (n:=left-m) Aa Aa,Au (n:=depth+1) Aa Aa];refine Ca A6 ?_;simp[Au (n:=(k:Int)+1) Aa Aa,Au (n:=m+Nw c.l[k] (left-m) (depth+1)) Aa Aa];refine Aj (Ln h ?_);refine⟨k+1,_,Aa,Ab,by simp;rfl,Aa,Aa,?_⟩;rw[<- hs,Fz,Qi,Ae S8]
   have e:Nw c left depth=m:=by rw[<- hs,Fz,Qi,Ac S8]
   simp[Af,S8];refine Aj (Lx ?_);simp;exact hQ (by simp[e])
 have e:Nw c left depth=m:=by rw[<- hs,Cm Aa,Qi]
 simp[Af];refine Aj (Lx ?_);simp;exact hQ (by simp[e])
def Axw(c:Cn)(left depth:Int)(hl:1<=left)(S7:left<=20001)(Lh:0<=depth)(hd:depth<=1000):Hc 259 [Ad c,.int .i64 left,.int .i64 depth] (.int .i64 (Nw c left depth)):=
 Blj c left depth hl S7 Lh hd fun x _ left depth h1 h2 h3 h4=>Axw x left depth h1 h2 h3 h4
termination_by SizeOf.sizeOf c
decreasing_by exact Cn.lt_l ‹_›
mutual
def Ay1:∀(c:Cn) (left depth:Int),1<=left->Nw c left depth=if depth+Bo c<=401/\(Al c:Int)<=left then(Al c:Int)else left
 | .mk o n s k ns l,left,depth,h=>by
   have e1:Bo (.mk o n s k ns l)=Cz l+1:=Jt _;have e2:Al (.mk o n s k ns l)=1+Bd l:=Ir _;rw[e1,e2,Nw];split
   . rw[Ac Aa]
   rw[Ay3 l left depth 1 Aa h]
   cases l with
   |nil=>simp[Bd,Cz]; omega
   |cons x xs=>simp only[reduceCtorEq,Xb]; split<;>split<;>omega
def Ay3:∀(l:List Cn) (left depth n:Int),1<=n->n<=left->Qi l left depth n=if(l=[]\/depth+1+Cz l<=401)/\n+(Bd l:Int)<=left then n+(Bd l:Int)else left
 | [],_,_,n,h,h'=>by simp[Qi,Bd,h']
 |x::xs,left,depth,n,h,h'=>by
  have Cl:1<=Al x:=by rw[Ir]; omega
  have e1:Cz (x::xs)=max (Bo x) (Cz xs):=by simp[Cz]
  have e2:Bd (x::xs)=Al x+Bd xs:=by simp[Bd]
  rw[e1,e2,Qi];split
  . have h1:=Ay1 x (left-n) (depth+1) Aa;have h2:=Ae1 x (left-n) (depth+1) Aa;rw[Ay3 xs left depth _ Aa Aa,h1];by_cases hx:depth+1+(Bo x:Int)<=401/\(Al x:Int)<=left-n
    . rw[Ae hx]
      cases xs with
      |nil=>simp[Bd,Cz]; split<;>split<;>omega
      |cons y ys=>simp only[reduceCtorEq,Xb]; split<;>split<;>omega
    rw[Ac hx];simp only[reduceCtorEq,Xb];split<;>split<;>omega
  rw[Ac Aa]; omega
end
def Blf(c:Cn):Hc 189 [Ad c] (.bool (decide (Al c<=20000)&&decide (Bo c<=400))):=by
 have e:(decide (Al c<=20000)&&decide (Bo c<=400))=decide (Nw c 20001 1<=20000):=by
  rw[Ay1 c 20001 1 Aa,Vd];simp only[Bb,Aw];split<;>omega
 rw[e];clear e;refine Hg Bf8 fun Q hQ=>?_;simp[Ad];refine Ca (Axw c 20001 1 Aa Aa Aa Aa) ?_;simp;exact hQ
end
def A6v{w w':World}{a:Addr}(h:w'.heap[a.block]? =w.heap[a.block]?):w'.cell? a=w.cell? a:=by
 unfold World.cell?;rw[h]
def C7.below{P:Program}{f:FuncId}{args:Ao}{res:AV}(he:Qw P f=true)
 (h:∀F g w vs,Ja P F w->(∀ a,F a->a.block<w.heap.size)->RL F g w args vs->Calls P f vs.toArray w fun e w'=>∃v,e= .returned v/\(w'.os=w.os/\w'.output=w.output)/\w.heap.size<=w'.heap.size/\(∀ k,k<w.heap.size->w'.heap[k]? =w.heap[k]?)/\
  ∀F':Addr->Prop,(∀ a,F a->F' a)->(∀ b off,w.heap.size<=b->b<w'.heap.size->F' ⟨b,off,none⟩)->R F' g w' res v):C7 P f args [] res []:=by
 refine⟨he,fun F g w vs hG hs hr=>(h F g w vs hG hs.live hr).mono ?_⟩;rintro e w' ⟨v,rfl,Kb,Cl,hk,hR⟩;have nh:=hs.live;have Acl:∀a,F a->w'.cell? a=w.cell? a:=fun a ha=>A6v (hk _ (nh a ha));refine⟨v,fun a=>F a\/(w.heap.size<=a.block/\a.block<w'.heap.size/\a.spot=Option.none),g,rfl,hR _ (fun a ha=>.inl ha) (fun b off h1 h2=>.inr ⟨h1,h2,rfl⟩),?_,?_⟩
 . refine⟨?_,hs.beyond,hs.inj,fun b cs hb=>by simp at hb,fun t n k ty ht=>by simp at ht,?_,fun b e cs hb=>by simp at hb,fun b ks hb=>by simp at hb⟩
   . rintro a (ha|⟨_,ha,_⟩)
     . exact Qp (nh a ha) Cl
     exact ha
   rintro b off s (ha|⟨_,_,ha⟩)
   . exact hs.spots b off s ha
   simp at ha
 refine⟨fun a ha=>.inl ha,Acl,Gh.le_refl g,Cl,fun B hB _=>hk B hB,?_,fun b B hb _=>by simp at hb,Bm _,Kb⟩;rintro a (ha|⟨ha,_,_⟩)
 . exact .inl ha
 exact .inr (.inl ha)
def A3y{F:Addr->Prop}{g:Gh}{w:World}{x y:AV}{vs:Fm}(h:RL F g w [x,y] vs):∃v u,vs=[v,u]/\R F g w x v/\R F g w y u:=by
 simp only[RL]at h;obtain⟨v,r,rfl,hv,u,r',rfl,hu,rfl⟩:=h;exact⟨v,u,rfl,hv,hu⟩
def Aam{F:Addr->Prop}{g:Gh}{w:World}{s:Bu}(h:s.length<=A1):R F g w (.str s) (.string ⟨s.toArray⟩):=by
 unfold R;exact⟨rfl,h⟩
def A3x{F:Addr->Prop}{g:Gh}{w:World}{B:Nat}(l:List Bu)(off:Nat)(hF:∀o,F ⟨B,o,none⟩)(hl:∀s∈l,s.length<=A1)
 (hc:∀(j:Nat) (s:Bu),l[j]? =some s->w.cell? ⟨B,off+j,none⟩=some (.string ⟨s.toArray⟩)):RE F g w B off 1 (At l):=by
 induction l generalizing off with
 |nil=>trivial
 |cons s l ih=>
  simp only[At,F8,RE]
  refine⟨rfl,?_,ih (off+1) (fun x hx=>hl x (by simp[hx])) (fun j x hx=>by
   have:=hc (j+1) x (by simpa using hx)
   rwa [show off+(j+1)=off+1+j from Aa]at this)⟩
  simp only[RM,AV.isCell,and_true,L1];exact⟨_,hF _,by simpa using hc 0 s Ab,Aam (hl s Ab)⟩
section
open Go.RowKit Go.Shelf Go.Proofs
def A3j(n:Nat)(w:World)(h0:0<n)(hn:n<=1099511627776):
 Calls Tryz.prog 94 #[.slice none 0 0,.int .i64 n] w fun e w'=>∃(nc:Nat) (cs:Array Value),n<=nc/\cs.size=nc/\e= .returned (.slice (some ⟨w.heap.size,0,none⟩) 0 nc)/\w'= {w with drawn:=w.drawn+1,heap:=w.heap.push (.cells cs 25)}:=by
 have hb:Tryz.t25.bytes=24:=A5;have hneg:¬((n:Int)<0):=Aa;have Gf:(0:Int)<(n:Int):=Aa
 have hA:¬281474976710656<Builtin.nextslicecap n 0*Tryz.t25.bytes:=by
  have:=growslice_fits (need:=n) (old:=0) (bytes:=24) h0 Aa;rw[hb]; omega
 have hB:(n:Int)*(Tryz.t25.bytes:Int)<=281474976710656:=by rw[hb]; omega
 have hC:(n:Int)<=9223372036854775807:=Aa;have hD:¬n=0:=Aa;clear hb
 go_enter Tryz.func94,Tryz.ntmps94
 go_wp2
 all_goals first
  |(exfalso;omega)
  |(go_ret
    refine⟨(Question.appendCap n 0 25).cut (w.tape w.drawn (Question.appendCap n 0 25)),by simp only[Question.cut]; omega,_,?_,rfl,rfl⟩
    simp[Builtin.zeroCells,Question.cut])
def A3k(w:World):Calls Tryz.prog 94 #[.slice none 0 0,.int .i64 0] w fun e w'=>e= .returned (.slice none 0 0)/\w'=w:=by
 go_enter Tryz.func94,Tryz.ntmps94
 go_wp2
 all_goals go_ret
 all_goals exact⟨rfl,rfl⟩
def my(n:Nat)(H:List HB):AV:=if n=0 then .sl .nilT []else .sl (.own H.length) []
def Yu(n:Nat)(H:List HB):List HB:=if n=0 then H else H++[.tok 0 1 25]
def Bpm(n:Nat)(hn:n<=1099511627776)(H:Ai):HP 94 [.sl .nilT [],.int .i64 n] H (my n H) (Yu n H):=by
 refine⟨A5,fun F g w vs _ hs hr=>?_⟩;obtain⟨v,u,rfl,hv,hu⟩:=lx hr;obtain rfl:u= .int .i64 n:=(L6 hu).1
 obtain rfl:v= .slice none 0 0:=by
  obtain⟨_,h|⟨_,_,_,_,_,_,_,_,_,h⟩⟩:=L7 hv
  . exact h.2.1
  exact absurd h (by simp[RT])
 by_cases h0:n=0
 . subst h0;refine(A3k w).mono ?_;rintro _ w' ⟨rfl,rfl⟩;refine⟨_,F,g,rfl,by simpa[my]using hv,by simpa[Yu]using hs,by simpa[Yu]using Bn.refl _ _ _ _⟩
 refine(A3j n w Aa hn).mono ?_;rintro _ w' ⟨nc,cs,h1,h2,rfl,rfl⟩
 obtain⟨F',g',f0,f1,f2,f3,f4⟩:=Aay hs (H':=H++[.tok 0 1 25]) (t:=H.length) (n:=0) (k:=1) (cap:=nc) (ty:=25) Ab (fun x hx=>by
  by_cases Af:x<H.length
  . rw[D5 Af]
  . rw[Im (by simp;omega),Im Aa]) Ab Ab (.inl rfl) (vs:=cs) (e:=25) (fun _=>rfl) Aa (Nl _)
  (w':={w with drawn:=w.drawn+1,heap:=w.heap.push (.cells cs 25)}) rfl ⟨rfl,rfl⟩
 refine⟨_,F',g',rfl,?_,by simpa[Yu,h0]using f1,by simpa[Yu,h0]using f2⟩;simp only[my,Ac h0,R];exact⟨Ab,.inr ⟨w.heap.size,0,none,nc,1,rfl,Nl _,⟨Aa,Ab⟩,by simp[RE],⟨_,_,f4,Bm _,fun _=>⟨f3,rfl,rfl,rfl⟩⟩⟩⟩
end
