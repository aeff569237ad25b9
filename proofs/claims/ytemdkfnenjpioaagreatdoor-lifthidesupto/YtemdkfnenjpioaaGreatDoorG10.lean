/- Joined: Rnd Bld2. -/
import Derived.Test.YtemdkfnenjpioaaGreatDoorG05
import Derived.OrdersIn
import Derived.RangeFuncNested
import Derived.RangeFuncCalls
import Derived.RangeFuncLeaves
import Derived.Test.YtemdkfnenjpioaaGreatDoorG09
set_option linter.unusedSimpArgs false
set_option linter.unusedVariables false
set_option linter.unusedSectionVars false
set_option linter.all false
set_option maxHeartbeats 4000000
set_option maxRecDepth 10000
namespace Go.Proofs.YtemdkfnenjpioaaGreatDoor
open Go
section
variable {P:Program} {ro:Option Nat} {n:Nat}
abbrev fz (ro:Option Nat):Fence:={ Fence.wide with round:=ro }
theorem A28 {row:String} {args:Array Value} {w:World} {R:Value→World→Prop} (h:Rows P row args w R):RowsIn (fz ro) n P row args w R:=
 fun c cs _=>let ⟨v,w',r,s⟩:=h c cs;⟨v,w',r,stepsIn_wide.2 s⟩
theorem Rf {o:Oper} {a:Act} {w:World} {K:Act→World→Prop} {Q:Exit→Act→World→Prop} (hd: ∀c,o.op≠.defer c) (h:o.wp P a w K Q):o.wpIn (fz ro) n P a w K Q:=by
 refine⟨fun _ _=>trivial,?_⟩
 rw[Oper.semAt_eq _ _ _ hd]
 unfold Oper.wp at h
 generalize (execOp a.eval o).run P w=r at h ⊢
 cases r with
 | ok x w'=>
   cases x
   case value v=>exact h
   case skip=>exact h
   case defer d=>exact h
   case enter f args=>exact⟨(fun e=>by cases e),(callsIn_wide.2 h:CallsIn Fence.wide (n - 1) P f args w' _)⟩
   case row r args=>exact⟨(fun e=>by cases e),A28 h⟩
   all_goals exact h.elim
 | halt x w'=>
   cases x<;>exact h
theorem Rd {o:Op} {ao:AOp} (h:I1 P o=some ao): ∀c,o≠.defer c:=by
 rintro c rfl
 simp[I1] at h
theorem Za {aos:List AO} {waits:List (List Nat)} {fl:Nat→Bool} {np:Nat} {C:List HB→Prop} {K:List AV→List HB→Prop} {ops:Array Oper} (hc:Dl P ops ops.toList=some aos) (hw:waits=Ht ops) {Q:Exit→Act→World→Prop} : ∀(fuel:Nat) (listed:Array Bool) (F:Addr→Prop) (g:Gh) (H:List HB) (w:World) (t:List AV) (a:Act),Sim P F g H w t a→Ic P aos waits fl np C K fuel listed t H→
 (∀ F' g' H' w' t' a',Sim P F' g' H' w' t' a'→Ext F g H w F' g' H' w'→K t' H'→Q .normal a' w')→wpAnyIn (fz ro) n P .any ops Q fuel listed a w
 | 0,listed,F,g,H,w,t,a,hs,h,hQ=>⟨(O5 hc hw).2 h.1,hQ F g H w t a hs (Ext.refl _ _ _ _) h.2⟩
 | fuel+1,listed,F,g,H,w,t,a,hs,h,hQ=>by
   refine⟨fun hr=>hQ F g H w t a hs (Ext.refl _ _ _ _) (h.1 ((O5 hc hw).1 hr)),fun i hi=>?_⟩
   have h2:=h.2 i ((Sx hc hw).1 hi)
   obtain⟨_,o,ho,_⟩:=mem_ready.1 hi
   obtain⟨x,hx,hcx⟩:=(Ld hc).2 i o (by simpa using ho)
   unfold Kz at hcx
   split at hcx
   · rename_i op gd c1 c2
     simp only[Option.some.injEq] at hcx;subst hcx
     obtain⟨s1,s2,s3,s4⟩:=hs
     have hg:=Mx s2 c2
     unfold aOp at h2
     simp only[hx] at h2
     unfold wpOpIn
     simp only[ho,hg]
     have go: ∀v H',Ck P op (aev t) H v H'→Ic P aos waits fl np C K fuel (listed.setIfInBounds i true) (Ax t o.dst v) H'→o.wpIn (fz ro) n P a w (wpAnyIn (fz ro) n P .any ops Q fuel (listed.setIfInBounds i true)) Q:=by
      intro v H' e1 e2
      exact Rf (Rd c1) (Ik s4 s1 s2 c1 e1 (fun w' F' g' u r1 r2 r3=>
       Za hc hw fuel _ F' g' H' w' _ _ ⟨r2,(s2.mono r3.keeps).put r1 _,by rw[Hi]; exact s3,s4.mono r3.keeps⟩ e2 fun F2 g2 H2 w2 t2 a2 q1 q2 q3=>hQ F2 g2 H2 w2 t2 a2 q1 (r3.trans q2) q3) rfl D4.none)
     split at h2
     · rename_i hgt
       simp only[hgt,if_true]
       split at h2
       · obtain⟨hCH,v,hv,hn⟩:=h2;exact go v H (hv H hCH) hn
       · obtain⟨v,H',hv,_,hn⟩:=h2;exact go v H' hv hn
     · rename_i hgt
       simp only[hgt,Bool.false_eq_true,if_false]
       exact⟨fun _ _=>trivial,Za hc hw fuel _ F g H w _ _ ⟨s1,s2.put Dc _,by rw[Hi]; exact s3,s4⟩ h2 hQ⟩
   · cases hcx
def Cy (P:Program) (ro:Option Nat) (n:Nat) (ac:AC) (t:List AV) (H:List HB) (Q:AX→List AV→List HB→Prop):Prop:=
 ∀c,B4 P c=some ac→∀F g w a,Sim P F g H w t a→
  c.wpIn (fz ro) n P (fun e a' w'=>∃x t' H' F' g',e=AX.to x∧Q x t' H'∧Sim P F' g' H' w' t' a'∧Ext F g H w F' g' H' w') a w
variable {t:List AV} {H:List HB} {Q:AX→List AV→List HB→Prop}
theorem Cy.mono {ac:AC} {Q':AX→List AV→List HB→Prop} (h:Cy P ro n ac t H Q) (hq: ∀x t H,Q x t H→Q' x t H):Cy P ro n ac t H Q':=
 fun c hc F g w a hs=>wpIn_mono (h c hc F g w a hs) fun _ _ _ ⟨x,t',H',F',g',e1,e2,e3⟩=>⟨x,t',H',F',g',e1,hq _ _ _ e2,e3⟩
theorem Cy.draw {ops:List AO} {waits:List (List Nat)} (hm:P.follows .mixedOrders=true) (fl:Nat→Bool) (np:Nat) (C:List HB→Prop) (hok:D8 ops waits fl np=true) (hC:C H) (h:Hm P fl np C 0 ops t H fun t' H'=>Q .normal t' H'):Cy P ro n (.draw ops waits) t H Q:=by
 intro c hc F g w a hs
 obtain⟨id,os,rfl,hy,rfl⟩:=Ab4 hc
 refine wpIn_region_any hm ?_
 obtain⟨hs1,hx1⟩:=hs.drew (w':={ w with drawn:=w.drawn+1 }) rfl ⟨rfl,rfl⟩
 have hlen:=(Ld hy).1
 simp only[Array.length_toList] at hlen
 have h2:=Ach (P:=P) (K:=fun t' H'=>Q .normal t' H') hok ops 0 (Array.replicate os.size false) t H (by simp) (by simp) (by simp[hlen]) (fun j hj=>by simp[hlen,hj]) (.inl hC) h
 rw[← hlen] at h2
 exact Za hy rfl _ _ F g H _ t a hs1 h2 fun F' g' H' w' t' a' q1 q2 q3=>⟨.normal,t',H',F',g',rfl,q3,q1,hx1.trans q2⟩
theorem Cy.drawF {ops:List AO} {ws:List (List Nat)} (hm:P.follows .mixedOrders=true) (V:Nat→Bool) (nq:List Nat) (hok:D8 ops ws (Da ops nq) ops.length=true) (ht:L7 ops nq=true)
 (h:Ds P V nq H 0 ops t H fun t' H'=>Cd V H H'∧Q .normal t' H'):Cy P ro n (.draw ops ws) t H Q:=by
 refine Cy.mono (Cy.draw (Q:=fun x t' H'=>Cd V H H'∧Q x t' H') hm (Da ops nq) ops.length (Cd V H) hok (fun _ _ _ h=>h) ?_) fun x t' H' hx=>hx.2
 refine N3 hok (fun k o l t' H' ho hs hl hd=>.inl ?_) ops 0 t H (by simp) (.inl fun _ _ _ h=>h) h
 obtain⟨t2,h2⟩:=P6 l (k+1) t' H' (fun j o' ho'=>Apo ht (by rw[← hl j]; exact ho') (by have:=Aa9 ho hs;omega)) hd
 exact h2.1
theorem Cy.drawC {ops:List AO} {ws:List (List Nat)} (hm:P.follows .mixedOrders=true) (V:Nat→Bool) (nq:List Nat) (hok:D8 ops ws (Da ops nq) (Ew ops)=true)
 (h:Ds P V nq H 0 ops t H fun t' H'=>Q .normal t' H'):Cy P ro n (.draw ops ws) t H Q:=
 Cy.draw hm (Da ops nq) (Ew ops) (Cd V H) hok (fun _ _ _ h=>h) (Aqg hok ops 0 t H _ (by simp) (.inl fun _ _ _ h=>h) h)
theorem Acv {ops:Array Oper} {Q:Exit→Act→World→Prop} {K:List AV→List HB→Prop} : ∀(os:List Oper) (aos:List AO) (k:Nat) (F:Addr→Prop) (g:Gh) (H:List HB) (w:World) (t:List AV) (a:Act),(∀ j,os[j]? =ops[k+j]?)→Dl P ops os=some aos→
 Sim P F g H w t a→Du P aos t H K→(∀ F' g' H' w' t' a',Sim P F' g' H' w' t' a'→Ext F g H w F' g' H' w'→K t' H'→Q .normal a' w')→wpOpsIn (fz ro) n P ops Q (List.range' k os.length) a w
 | [],aos,k,F,g,H,w,t,a,_,hc,hs,h,hQ=>by
   simp only[Dl,Option.some.injEq] at hc;subst hc
   exact hQ F g H w t a hs (Ext.refl _ _ _ _) h
 | o :: os,aos,k,F,g,H,w,t,a,hl,hc,hs,h,hQ=>by
   simp only[Dl] at hc
   split at hc
   · rename_i x xs h1 h2
     simp only[Option.some.injEq] at hc;subst hc
     have ho:ops[k]? =some o:=by simpa using (hl 0).symm
     have hl': ∀j,os[j]? =ops[k+1+j]?:=fun j=>by
      have:=hl (j+1)
      simp only[List.getElem?_cons_succ] at this
      rw[this]; congr 1;omega
     unfold Kz at h1
     split at h1
     · rename_i op gd c1 c2
       simp only[Option.some.injEq] at h1;subst h1
       obtain⟨s1,s2,s3,s4⟩:=hs
       have hg:=Mx s2 c2
       simp only[List.length_cons,List.range'_succ,wpOpsIn,ho,hg]
       simp only[Du] at h
       rcases h with⟨g1,v,H',e1,e2⟩ | ⟨g1,e2⟩ | ⟨g1,H',e1⟩
       · simp only[g1,if_true]
         refine Rf (Rd c1) (Ik s4 s1 s2 c1 e1 (fun w' F' g' u r1 r2 r3=>?_) rfl D4.none)
         exact Acv os xs (k+1) F' g' H' w' _ _ hl' h2 ⟨r2,(s2.mono r3.keeps).put r1 _,by rw[Hi]; exact s3,s4.mono r3.keeps⟩ e2 fun F2 g2 H2 w2 t2 a2 q1 q2 q3=>hQ F2 g2 H2 w2 t2 a2 q1 (r3.trans q2) q3
       · simp only[g1,Bool.false_eq_true,if_false]
         exact⟨fun _ _=>trivial,Acv os xs (k+1) F g H w _ _ hl' h2 ⟨s1,s2.put Dc _,by rw[Hi]; exact s3,s4⟩ e2 hQ⟩
       · simp only[g1,if_true]
         exact Rf (Rd c1) (Ik s4 s1 s2 c1 e1 (fun w' F' g' u r1 _ _=>(R_no r1).elim) rfl D4.none)
     · cases h1
   · cases hc
theorem Cy.region {ops:List AO} (h:Du P ops t H fun t' H'=>Q .normal t' H'):Cy P ro n (.region ops) t H Q:=by
 intro c hc F g w a hs
 obtain⟨id,os,rfl,hy⟩:=Yl hc
 refine wpIn_region ?_
 have:=Acv (P:=P) (ro:=ro) (n:=n) (ops:=os) (Q:=fun e a' w'=>∃x t' H' F' g',e=AX.to x∧Q x t' H'∧Sim P F' g' H' w' t' a'∧Ext F g H w F' g' H' w') os.toList ops 0 F g H w t a (by simp) hy hs h fun F' g' H' w' t' a' q1 q2 q3=>⟨.normal,t',H',F',g',rfl,q3,q1,q2⟩
 simpa[List.range_eq_range'] using this
def Ji (P:Program) (ds:List Deferred) (F:Addr→Prop) (g:Gh) (H:List HB) (w:World) (t:List AV) (a:Act):Prop:=St F g H w∧Tm F g w t a∧a.defers=ds∧Dr P F w
theorem Ab5 {ds:List Deferred} {ops:Array Oper} {Q:Exit→Act→World→Prop} {K:List AV→List HB→Prop} : ∀(os:List Oper) (aos:List AO) (k:Nat) (F:Addr→Prop) (g:Gh) (H:List HB) (w:World) (t:List AV) (a:Act),(∀ j,os[j]? =ops[k+j]?)→Dl P ops os=some aos→
 Ji P ds F g H w t a→Du P aos t H K→(∀ F' g' H' w' t' a',Ji P ds F' g' H' w' t' a'→Ext F g H w F' g' H' w'→K t' H'→Q .normal a' w')→wpOpsIn (fz ro) n P ops Q (List.range' k os.length) a w
 | [],aos,k,F,g,H,w,t,a,_,hc,hs,h,hQ=>by
   simp only[Dl,Option.some.injEq] at hc;subst hc
   exact hQ F g H w t a hs (Ext.refl _ _ _ _) h
 | o :: os,aos,k,F,g,H,w,t,a,hl,hc,hs,h,hQ=>by
   simp only[Dl] at hc
   split at hc
   · rename_i x xs h1 h2
     simp only[Option.some.injEq] at hc;subst hc
     have ho:ops[k]? =some o:=by simpa using (hl 0).symm
     have hl': ∀j,os[j]? =ops[k+1+j]?:=fun j=>by
      have:=hl (j+1)
      simp only[List.getElem?_cons_succ] at this
      rw[this]; congr 1;omega
     unfold Kz at h1
     split at h1
     · rename_i op gd c1 c2
       simp only[Option.some.injEq] at h1;subst h1
       obtain⟨s1,s2,s3,s4⟩:=hs
       have hg:=Mx s2 c2
       simp only[List.length_cons,List.range'_succ,wpOpsIn,ho,hg]
       simp only[Du] at h
       rcases h with⟨g1,v,H',e1,e2⟩ | ⟨g1,e2⟩ | ⟨g1,H',e1⟩
       · simp only[g1,if_true]
         refine Rf (Rd c1) (Ik s4 s1 s2 c1 e1 (fun w' F' g' u r1 r2 r3=>?_) rfl D4.none)
         exact Ab5 os xs (k+1) F' g' H' w' _ _ hl' h2 ⟨r2,(s2.mono r3.keeps).put r1 _,by rw[Hi]; exact s3,s4.mono r3.keeps⟩ e2 fun F2 g2 H2 w2 t2 a2 q1 q2 q3=>hQ F2 g2 H2 w2 t2 a2 q1 (r3.trans q2) q3
       · simp only[g1,Bool.false_eq_true,if_false]
         exact⟨fun _ _=>trivial,Ab5 os xs (k+1) F g H w _ _ hl' h2 ⟨s1,s2.put Dc _,by rw[Hi]; exact s3,s4⟩ e2 hQ⟩
       · simp only[g1,if_true]
         exact Rf (Rd c1) (Ik s4 s1 s2 c1 e1 (fun w' F' g' u r1 _ _=>(R_no r1).elim) rfl D4.none)
     · cases h1
   · cases hc
theorem Agn {ds:List Deferred} {ops:List AO} {c:Code} (hc:B4 P c=some (.region ops)) {F:Addr→Prop} {g:Gh} {w:World} {a:Act} (hs:Ji P ds F g H w t a) (h:Du P ops t H fun t' H'=>Q .normal t' H'):
 c.wpIn (fz ro) n P (fun e a' w'=>∃x t' H' F' g',e=AX.to x∧Q x t' H'∧Ji P ds F' g' H' w' t' a'∧Ext F g H w F' g' H' w') a w:=by
 obtain⟨id,os,rfl,hy⟩:=Yl hc
 refine wpIn_region ?_
 have:=Ab5 (P:=P) (ro:=ro) (n:=n) (ds:=ds) (ops:=os) (Q:=fun e a' w'=>∃x t' H' F' g',e=AX.to x∧Q x t' H'∧Ji P ds F' g' H' w' t' a'∧Ext F g H w F' g' H' w') os.toList ops 0 F g H w t a (by simp) hy hs h fun F' g' H' w' t' a' q1 q2 q3=>⟨.normal,t',H',F',g',rfl,q3,q1,q2⟩
 simpa[List.range_eq_range'] using this
end
section
variable {F F':Addr→Prop} {g g':Gh} {H H':List HB} {w w':World}
def Qh (H:List HB):Prop:=∀(b:Nat) ks,H[b]?≠some (.mp ks)
theorem St.owned_cells (hs:St F g H w) (hnm:Qh H) {b B:Nat} (hb:b < H.length) (h:g.blk b=some B): ∃vs e fr,w.heap[B]? =some (.cells vs e fr):=by
 cases hH:H[b]? with
 | none=>rw[List.getElem?_eq_none_iff] at hH;omega
 | some x=>
   cases x with
   | var cs=>
     obtain⟨B',vs,e,q1,q2,q3,q4,q5⟩:=hs.var b cs hH
     rw[h] at q1;cases q1
     exact⟨vs,e,_,q3⟩
   | tvar e cs=>
     obtain⟨B',vs,q1,q2,q3,q4,q5⟩:=hs.tvar b e cs hH
     rw[h] at q1;cases q1
     exact⟨vs,e,_,q3⟩
   | tok n k ty=>
     obtain⟨B',cap,vs,e,fr,q1,q2,q3,q4⟩:=hs.tok b n k _ hH
     rw[h] at q1;cases q1
     exact⟨vs,e,_,q3⟩
   | mp ks=>exact absurd hH (hnm b ks)
theorem Ext.others (hs:St F g H w) (hnm:Qh H) (hx:Ext F g H w F' g' H' w'):KeepsOthers w w':=by
 refine⟨hx.size,fun k o hk ho=>?_⟩
 have hlt:k < w.heap.size:=(Array.getElem?_eq_some_iff.1 hk).1
 rw[hx.frame k hlt fun b hb e=>?_,hk]
 obtain⟨vs,ty,fr,hc⟩:=hs.owned_cells hnm hb e
 rw[hk] at hc;cases hc;cases ho
def Fc (F:Addr→Prop) (w:World):Addr→Prop:=fun a=>F a∧(w.cell? a).isSome=true
mutual
theorem K4: ∀(x:AV) (v:Value),R F g w x v→R (Fc F w) g w x v
 | .bool _,_,h=>h
 | .int _ _,_,h=>h
 | .str _,_,h=>h
 | .nilp,_,h=>h
 | .nilm,_,h=>h
 | .ptr _ _,_,h=>h
 | .mapv _,_,h=>h
 | .val _,_,h=>h
 | .vsl _ _,_,h=>h
 | .nilf,_,h=>h
 | .nili,_,h=>h
 | .eptr cs,v,h=>by
   simp only[R] at h ⊢
   obtain⟨B,off,h1,h2⟩:=h
   exact⟨B,off,h1,RM_fc _ _ cs h2⟩
 | .sl tok els,v,h=>by
   simp only[R] at h ⊢
   obtain⟨h0,h⟩:=h
   refine⟨h0,?_⟩
   rcases h with h | ⟨B,off,sp,cap,k,h1,h2,hk,h3,h4⟩
   · exact .inl h
   · exact .inr ⟨B,off,sp,cap,k,h1,h2,hk,RE_fc _ _ _ els h3,h4⟩
 | .fn f first cap,v,h=>by
   simp only[R] at h ⊢
   obtain⟨a1,a2,h1,h2,h3⟩:=h
   exact⟨a1,a2,h1,Gd first _ h2,Gd cap _ h3⟩
 | .iface t x,v,h=>by
   simp only[R] at h ⊢
   obtain⟨u,h1,h2⟩:=h
   exact⟨u,h1,K4 x u h2⟩
 | .agg cs,v,h=>by
   simp only[R] at h ⊢
   obtain⟨a,h1,h2⟩:=h
   exact⟨a,h1,Gd cs _ h2⟩
 | .tup cs,v,h=>by
   simp only[R] at h ⊢
   obtain⟨a,h1,h2⟩:=h
   exact⟨a,h1,Gd cs _ h2⟩
theorem Gd: ∀(x:List AV) (v:List Value),RL F g w x v→RL (Fc F w) g w x v
 | [],_,h=>h
 | x :: xs,v,h=>by
   simp only[RL] at h ⊢
   obtain⟨u,r,h1,h2,h3⟩:=h
   exact⟨u,r,h1,K4 x u h2,Gd xs r h3⟩
theorem RM_fc: ∀(B off:Nat) (x:List AV),RM F g w B off x→RM (Fc F w) g w B off x
 | _,_,[],h=>h
 | B,off,x :: xs,h=>by
   simp only[RM] at h ⊢
   obtain⟨⟨h0,v,h1,h2,h3⟩,h4⟩:=h
   exact⟨⟨h0,v,⟨h1,by rw[h2]; rfl⟩,h2,K4 x v h3⟩,RM_fc _ _ xs h4⟩
theorem RE_fc: ∀(B off k:Nat) (x:List (List AV)),RE F g w B off k x→RE (Fc F w) g w B off k x
 | _,_,_,[],h=>h
 | B,off,k,x :: xs,h=>by
   simp only[RE] at h ⊢
   obtain⟨h1,h2,h3⟩:=h
   exact⟨h1,RM_fc _ _ x h2,RE_fc _ _ _ xs h3⟩
end
theorem St.cells (hs:St F g H w):St (Fc F w) g H w where
 live a h:=hs.live a h.1
 beyond:=hs.beyond
 inj:=hs.inj
 var b cs hb:=by
  obtain⟨B,vs,e,h1,h2,h3,h4,h5⟩:=hs.var b cs hb
  exact⟨B,vs,e,h1,h2,h3,Gd _ _ h4,fun off h=>h5 off h.1⟩
 tok t n k ty ht:=by
  obtain⟨B,cap,vs,e,fr,h1,h2,h3,h4,h5,h6⟩:=hs.tok t n k _ ht
  exact⟨B,cap,vs,e,fr,h1,h2,h3,h4,h5,fun off ho h=>h6 off ho h.1⟩
 spots b off s h:=hs.spots b off s h.1
 tvar b e cs hb:=by
  obtain⟨B,vs,h1,h2,h3,h4,h5⟩:=hs.tvar b e cs hb
  exact⟨B,vs,h1,h2,h3,Gd _ _ h4,fun off h=>h5 off h.1⟩
 mp:=hs.mp
theorem Dr.cells {P:Program} (h:Dr P F w):Dr P (Fc F w) w where
 rng:=by
  obtain⟨h1,te,pe,h2⟩:=h.rng
  exact⟨⟨h1,by rw[h2]; rfl⟩,te,pe,h2⟩
 asc c hc:=by
  obtain⟨h1,h2⟩:=h.asc c hc
  exact⟨⟨h1,by rw[h2]; rfl⟩,h2⟩
 mxl:=by
  obtain⟨h1,m,h2⟩:=h.mxl
  exact⟨⟨h1,by rw[h2]; rfl⟩,m,h2⟩
theorem Ext.cells (hx:Ext F g H w F' g' H' w') (hF: ∀a,F a→(w.cell? a).isSome=true):Ext F g H w (Fc F' w') g' H' w' where
 sub a h:=⟨hx.sub a h,by rw[hx.keep a h]; exact hF a h⟩
 keep:=hx.keep
 gh:=hx.gh
 size:=hx.size
 frame:=hx.frame
 new a h:=hx.new a h.1
 blks:=hx.blks
 len:=hx.len
 io:=hx.io
section
variable {row:Option Nat}
theorem Cr.grown (hF: ∀a,F a→(w.cell? a).isSome=true) (hg:w.grownBy w' row) (hr: ∀r,row=some r→∃o:Obj,w.heap[r]? =some o∧o.isCells=false):Cr F g w F g w':=
 ⟨fun _ h=>h,fun a ha=>by
  obtain⟨v,hv⟩:=Option.isSome_iff_exists.1 (hF a ha)
  rw[hv]; exact cell_kept hv hg hr,Gh.le_refl g⟩
theorem St.grown (hs:St F g H w) (hnm:Qh H) (hF: ∀a,F a→(w.cell? a).isSome=true) (hg:w.grownBy w' row) (hr: ∀r,row=some r→∃o:Obj,w.heap[r]? =some o∧o.isCells=false):St F g H w' where
 live a h:=Nat.lt_of_lt_of_le (hs.live a h) hg.size
 beyond:=hs.beyond
 inj:=hs.inj
 var b cs hb:=by
  obtain⟨B,vs,e,h1,h2,h3,h4,h5⟩:=hs.var b cs hb
  exact⟨B,vs,e,h1,h2,(grownBy_keeps_cells hg hr h3 rfl).trans h3,RL.mono (Cr.grown hF hg hr) _ _ h4,h5⟩
 tvar b e cs hb:=by
  obtain⟨B,vs,h1,h2,h3,h4,h5⟩:=hs.tvar b e cs hb
  exact⟨B,vs,h1,h2,(grownBy_keeps_cells hg hr h3 rfl).trans h3,RL.mono (Cr.grown hF hg hr) _ _ h4,h5⟩
 tok t n k ty ht:=by
  obtain⟨B,cap,vs,e,fr,h1,h2,h3,h4,h5,h6⟩:=hs.tok t n k _ ht
  exact⟨B,cap,vs,e,fr,h1,h2,(grownBy_keeps_cells hg hr h3 rfl).trans h3,h4,h5,h6⟩
 spots:=hs.spots
 mp b ks hb:=absurd hb (hnm b ks)
theorem Ext.grown {F0:Addr→Prop} {g0:Gh} {H0:List HB} {w0:World} (hx:Ext F0 g0 H0 w0 F g H w) (hF: ∀a,F a→(w.cell? a).isSome=true) (hg:w.grownBy w' row) (hr: ∀r,row=some r→w0.heap.size≤r∧∃o:Obj,w.heap[r]? =some o∧o.isCells=false):Ext F0 g0 H0 w0 F g H w' where
 sub:=hx.sub
 keep a ha:=((Cr.grown (g:=g) hF hg fun r e=>(hr r e).2).keep a (hx.sub a ha)).trans (hx.keep a ha)
 gh:=hx.gh
 size:=Nat.le_trans hx.size hg.size
 frame B hB hn:=(hg.block B (Nat.lt_of_lt_of_le hB hx.size) (fun e=>by have:=(hr B e.symm).1;omega)).trans (hx.frame B hB hn)
 new:=hx.new
 blks:=hx.blks
 len:=hx.len
 io:=⟨hg.os.trans hx.io.1,hg.output.trans hx.io.2⟩
theorem U5 (hF: ∀a,F a→(w.cell? a).isSome=true) (hg:w.grownBy w' row) (hr: ∀r,row=some r→∃o:Obj,w.heap[r]? =some o∧o.isCells=false): ∀a,F a→(w'.cell? a).isSome=true:=
 fun a ha=>by rw[(Cr.grown (g:=⟨fun _=>none,fun _=>none⟩) hF hg hr).keep a ha]; exact hF a ha
end
theorem St.none (hl: ∀a,F a→a.block < w.heap.size) (hsp: ∀b off s,¬F ⟨b,off,some s⟩):St F ⟨fun _=>.none,fun _=>.none⟩ [] w:=
 ⟨hl,fun _ _=>⟨rfl,rfl⟩,fun _ _ _ h=>(by cases h),fun b cs h=>(by simp at h),fun t n k ty h=>(by simp at h),hsp,fun b e cs h=>(by simp at h),fun b ks h=>(by simp at h)⟩
end
def Gr:HB→HB
 | .var cs=>.var (Ay cs)
 | .tvar e cs=>.tvar e (Ay cs)
 | .tok n k e=>.tok n k e
 | .mp ks=>.mp ks
section
variable {F F':Addr→Prop} {g g':Gh} {H H':List HB} {w w':World}
theorem St.strip (hs:St F g H w):St F g (H.map Gr) w where
 live:=hs.live
 beyond b hb:=hs.beyond b (by simpa using hb)
 inj:=hs.inj
 var b cs hb:=by
  rw[List.getElem?_map,Option.map_eq_some_iff] at hb
  obtain⟨x,h1,h2⟩:=hb
  cases x<;>simp only[Gr,HB.var.injEq,reduceCtorEq] at h2
  subst h2
  obtain⟨B,vs,e,q1,q2,q3,q4,q5⟩:=hs.var b _ h1
  exact⟨B,vs,e,q1,q2,q3,Ju _ _ q4,q5⟩
 tvar b e cs hb:=by
  rw[List.getElem?_map,Option.map_eq_some_iff] at hb
  obtain⟨x,h1,h2⟩:=hb
  cases x<;>simp only[Gr,HB.tvar.injEq,reduceCtorEq] at h2
  obtain⟨rfl,rfl⟩:=h2
  obtain⟨B,vs,q1,q2,q3,q4,q5⟩:=hs.tvar b _ _ h1
  exact⟨B,vs,q1,q2,q3,Ju _ _ q4,q5⟩
 tok t n k ty ht:=by
  rw[List.getElem?_map,Option.map_eq_some_iff] at ht
  obtain⟨x,h1,h2⟩:=ht
  cases x<;>simp only[Gr,HB.tok.injEq,reduceCtorEq] at h2
  obtain⟨rfl,rfl,rfl⟩:=h2
  exact hs.tok t _ _ _ h1
 spots:=hs.spots
 mp b ks hb:=by
  rw[List.getElem?_map,Option.map_eq_some_iff] at hb
  obtain⟨x,h1,h2⟩:=hb
  cases x<;>simp only[Gr,HB.mp.injEq,reduceCtorEq] at h2
  subst h2
  exact hs.mp b _ h1
theorem Ext.strip (hx:Ext F g H w F' g' H' w'):Ext F g H w F' g' (H'.map Gr) w' where
 sub:=hx.sub
 keep:=hx.keep
 gh:=hx.gh
 size:=hx.size
 frame:=hx.frame
 new:=hx.new
 blks b B hb h:=hx.blks b B (by simpa using hb) h
 len:=by simpa using hx.len
 io:=hx.io
end
theorem Xc {P:Program} {K K':List AV→List HB→Prop} : ∀{l:List AO} {t:List AV} {H:List HB},Du P l t H K→(∀ t H,K t H→K' t H)→Du P l t H K'
 | [],_,_,h,hk=>hk _ _ h
 | o :: r,t,H,h,hk=>by
   simp only[Du] at h ⊢
   rcases h with⟨h1,v,H',h2,h3⟩ | ⟨h1,h2⟩ | h
   · exact .inl ⟨h1,v,H',h2,Xc h3 hk⟩
   · exact .inr (.inl ⟨h1,Xc h2 hk⟩)
   · exact .inr (.inr h)
end Go.Proofs.YtemdkfnenjpioaaGreatDoor
namespace Go.Proofs.YtemdkfnenjpioaaGreatDoor
open Go Go.RowKit
theorem U2 {F:Addr→Prop} {g:Gh} {w:World} {x y:AV} {vs:List Value} (h:RL F g w [x,y] vs): ∃v u,vs=[v,u]∧R F g w x v∧R F g w y u:=by
 simp only[RL] at h
 obtain⟨v,r,rfl,hv,u,r',rfl,hu,rfl⟩:=h
 exact⟨v,u,rfl,hv,hu⟩
theorem Xk {F:Addr→Prop} {g:Gh} {w:World} {x:AV} {vs:List Value} (h:RL F g w [x] vs): ∃v,vs=[v]∧R F g w x v:=by
 simp only[RL] at h
 obtain⟨v,r,rfl,hv,rfl⟩:=h
 exact⟨v,rfl,hv⟩
theorem R_unit {F:Addr→Prop} {g:Gh} {w:World} :R F g w (.tup []) (.tuple #[]):=by
 simp only[R]; exact⟨#[],rfl,by simp[RL]⟩
theorem Aos:Gu Tryz.prog M4=true:=by kernel_rfl
theorem A20 {H:List HB} {b:Nat} {e:TypeId} {buf:AV} (hb:H[b]? =some (.tvar e [.nilp,buf])) (he:e=102∨e=104):Ab Tryz.prog M4 [.ptr b 0] H (.tup []) (H.set b (.tvar e [.ptr b 0,buf])):=by
 refine⟨Aos,fun F g w vs _ hs hr=>?_⟩
 obtain⟨v,rfl,hv⟩:=Xk hr
 obtain⟨B,q1,q2,rfl⟩:=E9 hv
 obtain⟨B',us,p1,p2,p3,p4,p5⟩:=hs.tvar b e _ hb
 rw[q1] at p1;cases p1
 obtain⟨nv,bv,hus,hnv,hbv⟩:=U2 p4
 obtain rfl:us= #[nv,bv]:=by apply Array.ext';simpa using hus
 obtain rfl:nv= .pointer none:=by simpa only[R] using hnv
 have hlie:liesAt Tryz.prog Tryz.prog.depth e (2 / Tryz.prog.cellsOf e) 0 102 1=true:=by
  rcases he with rfl | rfl
  · exact lies102
  · exact lies104
 refine (Asr B e w (by simp[World.cell?,p3]) (by simp[World.shape?,p3]) hlie (by simp[World.frozen?,p3])).mono ?_
 rintro _ w' ⟨rfl,rfl⟩
 have h1:(w.setCell ⟨B,0,none⟩ (.pointer (some ⟨B,0,none⟩))).heap[B]? =some (.cells #[.pointer (some ⟨B,0,none⟩),bv] e (0,0)):=by
  rw[heap_setCell_same w B 0 _ e _ p3]; rfl
 obtain⟨m1,m2⟩:=put_x (cs:=[.nilp,buf]) (cs':=[.ptr b 0,buf]) (e:=e) hs (.inr ⟨rfl,rfl⟩) hb q1 (w':=w.setCell ⟨B,0,none⟩ (.pointer (some ⟨B,0,none⟩))) (vs':=#[.pointer (some ⟨B,0,none⟩),bv]) (by simp only[RL]; exact⟨_,_,rfl,hv,_,_,rfl,hbv,rfl⟩) (by simp[World.setCell]) h1 (fun x hx=>heap_setCell_other w _ x _ hx) ⟨rfl,rfl⟩
 exact⟨_,F,g,rfl,R_unit,m1,m2⟩
theorem Awz {H:List HB} {b:Nat} {e:TypeId} {buf:AV} (hb:H[b]? =some (.tvar e [.ptr b 0,buf])):Ab Tryz.prog M4 [.ptr b 0] H (.tup []) H:=by
 refine⟨Aos,fun F g w vs _ hs hr=>?_⟩
 obtain⟨v,rfl,hv⟩:=Xk hr
 obtain⟨B,q1,q2,rfl⟩:=E9 hv
 obtain⟨B',us,p1,p2,p3,p4,p5⟩:=hs.tvar b e _ hb
 rw[q1] at p1;cases p1
 obtain⟨nv,bv,hus,hnv,hbv⟩:=U2 p4
 obtain rfl:us= #[nv,bv]:=by apply Array.ext';simpa using hus
 obtain⟨B2,q3,_,rfl⟩:=E9 hnv
 rw[q1] at q3;cases q3
 refine (Ayg B w (by simp[World.cell?,p3])).mono ?_
 rintro _ w' ⟨rfl,rfl⟩
 exact⟨_,F,g,rfl,R_unit,hs,Ext.refl _ _ _ _⟩
theorem Av6 {w:World} {B:Nat} {vs:Array Value} {e:TypeId} {fr:Nat × Nat} (h:w.heap[B]? =some (.cells vs e fr)) (n:Nat) (hn:fr.2≤n):
 (w.freeze ⟨B,0,none⟩ n).heap.size=w.heap.size∧(∃ fr',(w.freeze ⟨B,0,none⟩ n).heap[B]? =some (.cells vs e fr')∧fr'.2≤n)∧(∀ x,x≠B→(w.freeze ⟨B,0,none⟩ n).heap[x]? =w.heap[x]?)∧(w.freeze ⟨B,0,none⟩ n).os=w.os∧(w.freeze ⟨B,0,none⟩ n).output=w.output:=by
 unfold World.freeze
 split
 · exact⟨rfl,⟨fr,h,hn⟩,fun _ _=>rfl,rfl,rfl⟩
 · refine⟨by simp,?_,fun x hx=>by simp[Array.getElem?_modify,Ne.symm hx],rfl,rfl⟩
   obtain⟨lo,hi⟩:=fr
   simp only[Array.getElem?_modify,h,if_true,Option.map_some]
   refine⟨_,rfl,?_⟩
   simp only at hn
   split<;>simp<;>omega
theorem Ave {w w':World} {B:Nat} {vs:Array Value} {e:TypeId} {fr fr':Nat × Nat} (h:w.heap[B]? =some (.cells vs e fr)) (h':w'.heap[B]? =some (.cells vs e fr')) (ho: ∀x,x≠B→w'.heap[x]? =w.heap[x]?) (a:Addr):w'.cell? a=w.cell? a:=by
 by_cases e:a.block=B
 · unfold World.cell?;rw[e,h,h']
 · exact Fs (ho _ e)
theorem St.refreeze {F:Addr→Prop} {g:Gh} {H:List HB} {w w':World} (hs:St F g H w) {t B n k:Nat} {ty:TypeId} (ht:H[t]? =some (.tok n k ty)) (hB:g.blk t=some B) {vs:Array Value} {e:TypeId} {fr fr':Nat × Nat} (h:w.heap[B]? =some (.cells vs e fr)) (hz:w'.heap.size=w.heap.size)
 (h':w'.heap[B]? =some (.cells vs e fr')) (hf:fr'.2≤n * k) (hk:k=1) (he:e≠3) (ho: ∀x,x≠B→w'.heap[x]? =w.heap[x]?) (hio:w'.os=w.os∧w'.output=w.output):St F g H w'∧Ext F g H w F g H w':=by
 have hc:=Ave h h' ho
 have hK:Cr F g w F g w':=⟨fun _ h=>h,fun a _=>hc a,Gh.le_refl g⟩
 have hne: ∀x X,x≠t→g.blk x=some X→X≠B:=fun x X hx hX e=>hx (hs.inj x t B (by rw[hX,e]) hB)
 have htl:t < H.length:=(List.getElem?_eq_some_iff.1 ht).1
 refine⟨⟨fun a ha=>by rw[hz]; exact hs.live a ha,hs.beyond,hs.inj,fun b cs hb=>?_,fun x nx kx tx hx=>?_,hs.spots,fun b e' cs hb=>?_,fun b ks hb=>?_⟩,⟨fun _ h=>h,hK.keep,hK.gh,by omega,fun x hx hn=>ho x (fun e=>hn t htl (by rw[hB,e])),fun _ h=>.inl h,fun b X hb h=>.inl ⟨hb,h⟩,Nat.le_refl _,hio⟩⟩
 · obtain⟨X,us,e',q1,q2,q3,q4,q5⟩:=hs.var b cs hb
   have:X≠B:=hne b X (fun e=>by subst e;rw[ht] at hb;cases hb) q1
   exact⟨X,us,e',q1,q2,(ho X this).trans q3,RL.mono hK _ _ q4,q5⟩
 · obtain⟨X,cx,us,e',fx,q1,q2,q3,q4,q5⟩:=hs.tok x nx kx tx hx
   by_cases hxt:x=t
   · subst hxt
     rw[ht] at hx;cases hx
     rw[hB] at q1;cases q1
     rw[h] at q3;cases q3
     exact⟨B,cx,vs,e,fr',hB,q2,h',⟨hf,q4.2.1,q4.2.2.1,fun h=>h.elim (absurd hk) (fun h=>absurd h he)⟩,q5⟩
   · exact⟨X,cx,us,e',fx,q1,q2,(ho X (hne x X hxt q1)).trans q3,q4,q5⟩
 · obtain⟨X,us,q1,q2,q3,q4,q5⟩:=hs.tvar b e' cs hb
   have:X≠B:=hne b X (fun e=>by subst e;rw[ht] at hb;cases hb) q1
   exact⟨X,us,q1,q2,(ho X this).trans q3,RL.mono hK _ _ q4,q5⟩
 · rcases hs.mp b _ hb with q | ⟨X,es,ck,q1,q2,q3,q4⟩
   · exact .inl q
   · have:X≠B:=hne b X (fun e=>by subst e;rw[ht] at hb;cases hb) q1
     exact .inr ⟨X,es,ck,q1,q2,(ho X this).trans q3,q4⟩
def K6 (l:List UInt8):List (List AV):=l.map fun c=>[.int .u8 c.toNat]
theorem Azb {H:List HB} {b t:Nat} {e:TypeId} {p:AV} {l:List UInt8} (hl:l≠[]) (hb:H[b]? =some (.tvar e [p,.sl (.own t) (K6 l)])) (ht:H[t]? =some (.tok l.length 1 5)):Ab Tryz.prog S2 [.ptr b 0] H (.str l) H:=by
 refine⟨by kernel_rfl,fun F g w vs _ hs hr=>?_⟩
 obtain⟨v,rfl,hv⟩:=Xk hr
 obtain⟨B,q1,q2,rfl⟩:=E9 hv
 obtain⟨B',us,p1,p2,p3,p4,p5⟩:=hs.tvar b e _ hb
 rw[q1] at p1;cases p1
 obtain⟨nv,bv,hus,hnv,hbv⟩:=U2 p4
 obtain rfl:us= #[nv,bv]:=by apply Array.ext';simpa using hus
 obtain⟨hmax,h | ⟨D,off,sp,cap,k,rfl,c1,c2,c3,c4⟩⟩:=Ep hbv
 · exact absurd h.1 (by simpa[K6] using hl)
 simp only[K6,List.length_map] at hmax c1
 obtain⟨m,c,r1,r2,r3⟩:=c4
 obtain⟨X,cx,ws,el,fr,s1,s2,s3,⟨s4,s5,s6⟩,s7,s8⟩:=hs.tok t _ _ _ ht
 rw[s2] at r1;cases r1
 obtain⟨d1,d2,d3,d4⟩:=r3 (by simp[K6])
 rw[s1] at d1;cases d1
 simp only at d2 d4;subst d2 d3 d4
 obtain rfl:el=5:=s6.1 (by decide)
 have hcell: ∀j x,l[j]? =some x→w.cell? ⟨D,j,none⟩=some (.int .u8 x.toNat):=by
  intro j x hj
  obtain⟨e1,e2⟩:=Sh c3 j [.int .u8 x.toNat] (by simp[K6,hj])
  have hk1:k=1:=by simpa using e1.symm
  subst hk1
  simp only[RM,Nat.mul_one,Nat.zero_add] at e2
  obtain⟨⟨_,v,_,f2,f3⟩,_⟩:=e2
  rw[f2,(E1 f3).1]
 simp only[K6,List.length_map] at p3
 refine (Ayv B D l.length cap 5 ws.size l w hl (by simpa[A4] using hmax) (by simp[World.cell?,p3]) c1 (by simp[World.shape?,s3]) (by omega) hcell).mono ?_
 rintro _ w' ⟨rfl,rfl⟩
 obtain⟨z1,⟨fr',z2,z3⟩,z4,z5⟩:=Av6 (w:=w.drew) (B:=D) s3 l.length (by simpa using s4)
 obtain⟨m1,m2⟩:=hs.refreeze ht s1 s3 (w':=w.drew.freeze ⟨D,0,none⟩ l.length) z1 z2 (by simpa using z3) rfl (by decide) z4 z5
 exact⟨_,F,g,rfl,by simp only[R]; exact⟨trivial,hmax⟩,m1,m2⟩
end Go.Proofs.YtemdkfnenjpioaaGreatDoor
