/- Joined: Cau Cau2 Cau3 Aw3. -/
import Derived.Defers
import Derived.Recover
import Derived.WalkKit
import Derived.Shelf.Abstract
import Derived.Test.YtemdkfnenjpioaaGreatDoorG30
set_option linter.unusedSimpArgs false
set_option linter.unusedVariables false
set_option linter.unusedSectionVars false
set_option linter.all false
set_option maxHeartbeats 4000000
set_option maxRecDepth 10000
namespace Go.Proofs.YtemdkfnenjpioaaGreatDoor
open Go Go.RowKit
attribute [local simp] Ar aev Ax A7 start AV.cells AV.undef Bc Be Bh Bl Bj AV.isCell Bf A1 Bi
attribute [local simp] fin A9 A8 Bb AV.strip Ay A5 AV.inScope Am A0 As
section
variable [Cc] {P:Program}
theorem Aec {ds:List Deferred} {ops:Array Oper} {Q:Exit→Act→World→Prop} {K:List AV→List HB→Prop} : ∀(l:List Oper) (aos:List AO) (k:Nat) (F:Addr→Prop) (g:Gh) (H:List HB) (w:World) (t:List AV) (a:Act),(∀ j,l[j]? =ops[k+j]?)→Dl P ops l=some aos→
 Ji P ds F g H w t a→Du P aos t H K→(∀ F' g' H' w' t' a',Ji P ds F' g' H' w' t' a'→Ext F g H w F' g' H' w'→K t' H'→Q .normal a' w')→D4 ds F g H w Q→wpOps P ops Q (List.range' k l.length) a w
 | [],aos,k,F,g,H,w,t,a,_,hc,hs,h,hQ,_=>by
   simp only[Dl,Option.some.injEq] at hc;subst hc
   exact hQ F g H w t a hs (Ext.refl _ _ _ _) h
 | o :: l,aos,k,F,g,H,w,t,a,hl,hc,hs,h,hQ,hP=>by
   simp only[Dl] at hc
   split at hc
   · rename_i x xs h1 h2
     simp only[Option.some.injEq] at hc;subst hc
     have ho:ops[k]? =some o:=by simpa using (hl 0).symm
     have hl': ∀j,l[j]? =ops[k+1+j]?:=fun j=>by
      have:=hl (j+1)
      simp only[List.getElem?_cons_succ] at this
      rw[this]; congr 1;omega
     unfold Kz at h1
     split at h1
     · rename_i op gd c1 c2
       simp only[Option.some.injEq] at h1;subst h1
       obtain⟨s1,s2,s3,s4⟩:=hs
       have hg:=Mx s2 c2
       simp only[List.length_cons,List.range'_succ,wpOps,ho,hg]
       simp only[Du] at h
       rcases h with⟨g1,v,H',e1,e2⟩ | ⟨g1,e2⟩ | ⟨g1,H',e1⟩
       · simp only[g1,if_true]
         refine .inl (Ik s4 s1 s2 c1 e1 (fun w' F' g' u r1 r2 r3=>?_) s3 hP)
         exact Aec l xs (k+1) F' g' H' w' _ _ hl' h2 ⟨r2,(s2.mono r3.keeps).put r1 _,by rw[Hi]; exact s3,s4.mono r3.keeps⟩ e2 (fun F2 g2 H2 w2 t2 a2 q1 q2 q3=>hQ F2 g2 H2 w2 t2 a2 q1 (r3.trans q2) q3) (hP.ext r3)
       · simp only[g1,Bool.false_eq_true,if_false]
         exact Aec l xs (k+1) F g H w _ _ hl' h2 ⟨s1,s2.put Dc _,by rw[Hi]; exact s3,s4⟩ e2 hQ hP
       · simp only[g1,if_true]
         exact .inl (Ik s4 s1 s2 c1 e1 (fun w' F' g' u r1 _ _=>(R_no r1).elim) s3 hP)
     · cases h1
   · cases hc
theorem Vm {ds:List Deferred} {ops:List AO} {c:Code} (hc:B4 P c=some (.region ops)) {F:Addr→Prop} {g:Gh} {H:List HB} {w:World} {t:List AV} {a:Act} (hs:Ji P ds F g H w t a) {K:List AV→List HB→Prop} (h:Du P ops t H K)
 {Q:Exit→Act→World→Prop} (hQ: ∀F' g' H' w' t' a',Ji P ds F' g' H' w' t' a'→Ext F g H w F' g' H' w'→K t' H'→Q .normal a' w') (hP:D4 ds F g H w Q):c.wp P Q a w:=by
 obtain⟨id,os,rfl,hy⟩:=Yl hc
 refine wp_region ?_
 have:=Aec (P:=P) (ops:=os) (Q:=Q) os.toList ops 0 F g H w t a (by simp) hy hs h hQ hP
 simpa[List.range_eq_range'] using this
end
theorem A0e (p q:Value) (w:World):CallsD Tryz.prog 80 #[p,q] .returning w fun x u' w'=>x= .returned (.tuple #[])∧u'= .returning∧w'=w:=by
 have hnil: ∀w:World,(binOp BinOp.eql 20 .nilIface .nilIface).run Tryz.prog w= .ok (.bool true) w:=fun _=>by kernel_rfl
 refine callsD_of_wpS Tryz.func80 rfl fun c₀ cs hu=>?_
 apply wpS_seq
 apply wpS_region
 simp[wpOpsS,go_sem,recoverD,hu,Tryz.ntmps80,Exit.thenS]
 refine wpS_of_wp (wp_block (wp_seq (wp_region ?_)))
 simp[wpOps,Oper.wp,go_sem,hnil]
 refine .inl ?_
 refine wp_cond (t:=true) (by simp[Act.eval,Array.replicate]) ?_
 simp only[if_true]
 refine wp_region ?_
 simp[wpOps,Oper.wp,go_sem,Exit.inBlock]
 refine .inl ?_
 cases c₀
 simp_all[bodyPostS,results,Tryz.results80]
def caY:AC:=match Akj with | .seq _ (.block _ (.seq _ (.cond _ _ (.seq _ (.cond _ y _)))))=>y | _=>.bad
def caA:AC:=match Jp with | .seq a _=>a | _=>.bad
def caB:List AO:=match Jp with | .seq _ (.seq _ (.seq (.region b) _))=>b | _=>[]
def caC:List AO:=match Jp with | .seq _ (.seq _ (.seq _ (.seq (.seq (.region c) _) _)))=>c | _=>[]
def caE:List AO:=match Jp with | .seq _ (.seq _ (.seq _ (.seq (.seq _ (.cond _ (.seq (.region e) _) _)) _)))=>e | _=>[]
def caG:List AO:=match Jp with | .seq _ (.seq _ (.seq _ (.seq _ (.seq (.region g) _))))=>g | _=>[]
def Bz:List AV:=[.sl .nilT [],.sl .nilT [],.bool false,.int .i64 0,.int .i64 0,.str [],.int .i64 0,.int .i64 0,.str [],.sl .nilT [],.sl .nilT [],.sl .nilT [],.sl .nilT [],.sl .nilT [],.sl .nilT [],.sl .nilT [],.sl .nilT [],.int .i64 0,.int .i64 0,.str [],.int .i64 0,.int .i64 0,.str [],.sl .nilT [],.sl .nilT [],.sl .nilT [],.int .i64 0,.int .i64 0,.str [],.sl .nilT [],.sl .nilT [],.sl .nilT [],.sl .nilT [],.sl .nilT [],.sl .nilT []]
def Gx:El:=⟨[],[],false,Es,Bv⟩
theorem Wl:Bx Gx=Ay Bz:=by rw[Bd]; rfl
def cL:List HB:=[.var Bz,.var [.int .i64 0]]
theorem ca_code: ∃(fn:Func) (A D B C E G:Code),Tryz.prog.funcs[28]? =some fn∧fn.body=some (.seq A (.seq D (.seq B (.seq (.seq C (.cond (.tmp 9) (.seq E .ret) .skip)) (.seq G .ret)))))∧
 B4 Tryz.prog A=some caA∧B4 Tryz.prog B=some (.region caB)∧B4 Tryz.prog C=some (.region caC)∧B4 Tryz.prog E=some (.region caE)∧B4 Tryz.prog G=some (.region caG)∧fn.ntmps=12∧Hb Tryz.prog fn.results.toList=some [.cell 2 true 35,.cell 3 false 1]∧
 (∀ (t0 t1 t2 t3 t4 t5 t6 t7 t8 t9 t10 t11:Value) (Q:Exit→Act→World→Prop) (w:World),Q .normal { tmps:=#[t0,t1,t2,t3,.func (.func 80) #[] #[t2,t3],t5,t6,t7,t8,t9,t10,t11],defers:=[{ target:=.fn (.func 80) #[t2,t3],args:=#[] }] } w→
  D.wp Tryz.prog Q { tmps:=#[t0,t1,t2,t3,t4,t5,t6,t7,t8,t9,t10,t11],defers:=[] } w)∧
 ∀(n:Nat) (cap:Array Value) (t1 t2 t3 t4 t5 t6 t7 t8 t9 t10 t11:Value) (ds:List Deferred) (Q:Exit→Act→World→Prop) (w:World),Gu Tryz.prog n=true→
  Calls Tryz.prog n cap w (fun e w'=>∃ch,e= .panicked ch∧Q (.panic ch) { tmps:=#[.func (.func n) #[] cap,t1,t2,t3,t4,.func (.func n) #[] cap,t6,t7,t8,t9,t10,t11],defers:=ds } w')→
  B.wp Tryz.prog Q { tmps:=#[.func (.func n) #[] cap,t1,t2,t3,t4,t5,t6,t7,t8,t9,t10,t11],defers:=ds } w:=by
 refine⟨Tryz.f28,_,_,_,_,_,_,Tryz.func28,rfl,by kernel_rfl,by kernel_rfl,by kernel_rfl,by kernel_rfl,by kernel_rfl,by kernel_rfl,by kernel_rfl,fun t0 t1 t2 t3 t4 t5 t6 t7 t8 t9 t10 t11 Q w h=>?_,fun n cap t1 t2 t3 t4 t5 t6 t7 t8 t9 t10 t11 ds Q w hen h=>?_⟩
 · refine wp_region ?_
   simp[wpOps,Oper.wp,go_sem]
   exact .inl (.inl h)
 · have hcf:=fun args=>W9 (w:=w) hen args
   refine wp_region ?_
   simp[wpOps,Oper.wp,go_sem,hcf]
   refine .inl (.inl (h.mono ?_))
   rintro e w' ⟨ch,rfl,hq⟩
   exact hq
def tY (m:Nat) (e:Int):List AV:=[.ptr m 0,.ptr (m+1) 0,.undef,.undef,.undef,Fz e,.undef,.bool false,.tup [.agg [.int .i64 e],.bool true],.bool true,.agg [.int .i64 e],.undef,.undef,.undef]
theorem caY_wp (K:List HB) (e:Int):AWp Tryz.prog caY (tY K.length e) (K++cL) fun x _ H=>x= .normal∧∃L,H=K++[.var Bz,.var [.int .i64 e]]++L:=by
 refine AWp.run mixed fun Q hQ=>?_
 simp -implicitDefEqProofs[caY,Akj,tY,cL,Bz]
 refine WP_drawG (fun b=>b == K.length+2) [] [0,1] mixed (by rfl) (by rfl) ?_
 simp -implicitDefEqProofs[J6]
 refine⟨fun b cs hb h=>?_,hQ _ _ _ ?_⟩
 · simp at hb
   subst hb
   simpa using h
 · simp[Bz]
set_option maxHeartbeats 1000000 in
theorem Ax7 {F:Addr→Prop} {g:Gh} {w:World} {K:List HB} {e:Int} {B1 B2:Nat} {u:Value} (hs:St F g (K++cL) w) (hG:Dr Tryz.prog F w) (hb1:g.blk K.length=some B1) (hk1:g.tk K.length=none) (hb2:g.blk (K.length+1)=some B2) (hk2:g.tk (K.length+1)=none) (hu:R F g w (Fz e) u):
 CallsD Tryz.prog 80 #[.pointer (some ⟨B1,0,none⟩),.pointer (some ⟨B2,0,none⟩)] (.panicking [{ v:=u,recovered:=false }]) w fun x u' w'=>x= .returned (.tuple #[])∧u'= .panicking [{ v:=u,recovered:=true }]∧
  ∃L F' g',St F' g' (K++[.var Bz,.var [.int .i64 e]]++L) w'∧Ext F g (K++cL) w F' g' (K++[.var Bz,.var [.int .i64 e]]++L) w':=by
 have hu0:=hu
 simp only[Fz,R,RL] at hu
 obtain⟨_,rfl,ws,rfl,_,_,he,⟨rfl,hi⟩,rfl⟩:=hu
 obtain rfl:ws= #[.int .i64 e]:=Array.ext' (by simpa using he)
 clear he
 have hnil: ∀(v:Value) (w:World),(binOp BinOp.eql 20 (.iface gBrk v) .nilIface).run Tryz.prog w= .ok (.bool false) w:=fun _ _=>by kernel_rfl
 have has: ∀(v:Value) (w:World),(Instr.typeAssert (.iface gBrk v) 20 121 true).run Tryz.prog w= .ok (.tuple #[v,.bool true]) w:=fun _ _=>by kernel_rfl
 refine callsD_of_wpS Tryz.func80 rfl fun c₀ cs hu=>?_
 apply wpS_seq
 apply wpS_region
 simp[wpOpsS,go_sem,recoverD,hu,Tryz.ntmps80,Exit.thenS]
 refine wpS_of_wp (wp_block (wp_seq (wp_region ?_)))
 simp[wpOps,Oper.wp,go_sem,hnil]
 refine .inl ?_
 refine wp_cond (t:=false) (by simp[Act.eval,Array.replicate]) ?_
 simp only[Bool.false_eq_true,if_false]
 refine wp_seq (wp_region ?_)
 simp[wpOps,Oper.wp,go_sem,has]
 refine .inl (.inl (.inl ?_))
 refine wp_cond (t:=true) rfl ?_
 simp only[if_true]
 refine wp_mono (AWp.det (caY_wp K e) _ (by kernel_rfl) F g w _ ⟨hs,?_,rfl,hG⟩) ?_
 · show RL F g w (tY K.length e) [.pointer (some ⟨B1,0,none⟩),.pointer (some ⟨B2,0,none⟩),undef,undef,undef,.iface gBrk (.agg #[.int .i64 e]),undef,.bool false,.tuple #[.agg #[.int .i64 e],.bool true],.bool true,.agg #[.int .i64 e],undef,undef,undef]
   have hag:R F g w (.agg [.int .i64 e]) (.agg #[.int .i64 e]):=by simp only[R,RL]; exact⟨_,rfl,_,_,rfl,⟨rfl,hi⟩,rfl⟩
   simp only[tY,RL]
   refine⟨_,_,rfl,?_,_,_,rfl,?_,_,_,rfl,Dc,_,_,rfl,Dc,_,_,rfl,Dc,_,_,rfl,hu0,_,_,rfl,Dc,_,_,rfl,?_,_,_,rfl,?_,_,_,rfl,?_,_,_,rfl,hag,_,_,rfl,Dc,_,_,rfl,Dc,_,_,rfl,Dc,rfl⟩
   · simp only[R]; exact⟨B1,hb1,hk1,rfl⟩
   · simp only[R]; exact⟨B2,hb2,hk2,rfl⟩
   · simp only[R]
   · simp only[R,RL]; exact⟨_,rfl,_,_,rfl,hag,_,_,rfl,rfl,rfl⟩
   · simp only[R]
 · rintro e' a' w' ⟨x,t',H',F',g',rfl,⟨rfl,L,rfl⟩,sim',ext'⟩
   simp only[AX.to,Exit.inBlock]
   refine⟨sim'.2.2.1,_,rfl,.tuple #[],by simp[results,Tryz.results80],rfl,rfl,L,F',g',by simpa using sim'.1,by simpa using ext'⟩
end Go.Proofs.YtemdkfnenjpioaaGreatDoor
namespace Go.Proofs.YtemdkfnenjpioaaGreatDoor
open Go Go.RowKit
attribute [local simp] Ar aev Ax A7 start AV.cells AV.undef Bc Be Bh Bl Bj AV.isCell Bf A1 Bi
attribute [local simp] fin A9 A8 Bb AV.strip Ay A5 AV.inScope Am A0 As
def caT (fv s4 s5 s6 s7 s8 s9 s10 s11:AV) (m:Nat):List AV:=[fv,.undef,.ptr m 0,.ptr (m+1) 0,s4,s5,s6,s7,s8,s9,s10,s11]
theorem caA_wp (fv:AV) (H:List HB):AWp Tryz.prog caA (start [fv] 12) H fun x t H'=>x= .normal∧t=caT fv .undef .undef .undef .undef .undef .undef .undef .undef H.length∧H'=H++cL:=by
 refine AWp.run mixed fun Q hQ=>?_
 simp -implicitDefEqProofs[caA,Jp]
 refine hQ _ _ _ ?_
 simp[caT,cL,Bz]
theorem Ac4 {fn:Func} (hres:Hb Tryz.prog fn.results.toList=some [.cell 2 true 35,.cell 3 false 1]) {F0 F:Addr→Prop} {g0 g:Gh} {w0 w:World} {H H':List HB} {t:List AV} {tm:Array Value} {c:List AV} {x:El} {e:Int} {L:List HB}
 (hs:St F g (H'++[.var c,.var [.int .i64 e]]++L) w) (hx:Ext F0 g0 H w0 F g (H'++[.var c,.var [.int .i64 e]]++L) w) (ht:RL F g w t tm.toList) (hG:Dr Tryz.prog F w) (h2:t.getD 2 .undef= .ptr H'.length 0) (h3:t.getD 3 .undef= .ptr (H'.length+1) 0)
 (hc:Bc true 35 c=some (.agg c)) (hv:Ay c=Bx x) (hl:H.length≤H'.length) (hsc:As H'.length H'=true) (hg0: ∀b,H.length≤b→g0.blk b=none∧g0.tk b=none):
 ∃u F' g',(results fn tm).run Tryz.prog w= .ok u w∧R F' g' w (.tup [Av x,.int .i64 e]) u∧St F' g' H' w∧Ext F0 g0 H w0 F' g' H' w:=by
 obtain⟨u,hu,hru⟩:=Vz (P:=Tryz.prog) (a:={ tmps:=tm,defers:=[] }) (t:=t) (v:=.tup [.agg c,.int .i64 e]) ⟨hs,ht,rfl,hG⟩ hres (by
  simp only[A9,A8,Bb,h2,h3,List.append_assoc,Ahm,Aqe]
  simp[Bc] at hc ⊢
  simp[hc])
 rw[List.append_assoc] at hs hx
 obtain⟨g2,e1,e2,e3⟩:=St.forget (H0:=H') (L:=[.var c,.var [.int .i64 e]]++L) hs hx hl hsc hg0
 refine⟨u,F,g2,hu,F9 e1 _ u (by simp[AV.inScope,Am]) ?_,e2,e3⟩
 have:=Mu _ _ hru
 simpa[AV.strip,Ay,hv,Av] using this
noncomputable def caR (x:El):El × Int:=if elF x=true then (x,0) else (Gx,6)
def elE (p:El × Int):AV:=.tup [Av p.1,.int .i64 p.2]
theorem Gw (p:El × Int) (n:Nat):(elE p).inScope n=true:=by simp[elE,AV.inScope,Am]
theorem el_take (x:El):Bc true 35 (Bx x)=some (.agg (Bx x)):=by
 simp[Bc]
theorem Afc:Bc true 35 Bz=some (.agg Bz):=by rfl
theorem Api {fn:Func} {tm:Array Value} {p q:Value} {w:World} {R:Ending→World→Prop} (h: ∃u,(results fn tm).run Tryz.prog w= .ok u w∧R (.returned u) w):Leaves Tryz.prog fn tm R [{ target:=.fn (.func 80) #[p,q],args:=#[] }] .returning w:=by
 refine leaves_cons (f:=80) (args:=#[p,q]) (by simp) (by simp[go_sem]) ?_
 refine (A0e p q w).mono ?_
 rintro e u' w'' ⟨rfl,rfl,rfl⟩
 exact h
theorem Km {F:Addr→Prop} {g:Gh} {w:World} {v:Value} (h:R F g w .undef v):v=undef:=by
 obtain⟨a,rfl,h2⟩:=R_tup (show R F g w (.tup []) v from h)
 simp only[RL] at h2
 obtain rfl:a= #[]:=by apply Array.ext';simpa using h2
 rfl
theorem Ajl {n:Nat} {cap:List AV} {H:List HB} {R:World→(Addr→Prop)→Gh→List HB→Ending→World→Prop} {F:Addr→Prop} {g:Gh} {w:World} {vs:List Value} (hG:Dr Tryz.prog F w) (hs:St F g H w) (hr:RL F g w [.fn (.func n) [] cap] vs)
 (h: ∀(fn:Func) (B C E G:Code),B4 Tryz.prog B=some (.region caB)→B4 Tryz.prog C=some (.region caC)→B4 Tryz.prog E=some (.region caE)→B4 Tryz.prog G=some (.region caG)→Hb Tryz.prog fn.results.toList=some [.cell 2 true 35,.cell 3 false 1]→
  (∀ (n:Nat) (cap:Array Value) (t1 t2 t3 t4 t5 t6 t7 t8 t9 t10 t11:Value) (ds:List Deferred) (Q:Exit→Act→World→Prop) (w:World),Gu Tryz.prog n=true→
   Calls Tryz.prog n cap w (fun e w'=>∃ch,e= .panicked ch∧Q (.panic ch) { tmps:=#[.func (.func n) #[] cap,t1,t2,t3,t4,.func (.func n) #[] cap,t6,t7,t8,t9,t10,t11],defers:=ds } w')→
   B.wp Tryz.prog Q { tmps:=#[.func (.func n) #[] cap,t1,t2,t3,t4,t5,t6,t7,t8,t9,t10,t11],defers:=ds } w)→
  ∀(F1:Addr→Prop) (g1:Gh) (w1:World) (ca:Array Value) (B1 B2:Nat),St F1 g1 (H++cL) w1→Dr Tryz.prog F1 w1→Ext F g H w F1 g1 (H++cL) w1→RL F1 g1 w1 cap ca.toList→g1.blk H.length=some B1→g1.tk H.length=none→g1.blk (H.length+1)=some B2→g1.tk (H.length+1)=none→
  (Code.seq B (.seq (.seq C (.cond (.tmp 9) (.seq E .ret) .skip)) (.seq G .ret))).wp Tryz.prog (bodyPostD Tryz.prog fn (fun e w'=>∃Fx gx Hx,R w Fx gx Hx e w')) { tmps:=#[.func (.func n) #[] ca,undef,.pointer (some ⟨B1,0,none⟩),.pointer (some ⟨B2,0,none⟩),.func (.func 80) #[] #[.pointer (some ⟨B1,0,none⟩),.pointer (some ⟨B2,0,none⟩)],undef,undef,undef,undef,undef,undef,undef],defers:=[{ target:=.fn (.func 80) #[.pointer (some ⟨B1,0,none⟩),.pointer (some ⟨B2,0,none⟩)],args:=#[] }] } w1):
 Calls Tryz.prog 28 vs.toArray w fun e w'=>∃Fx gx Hx,R w Fx gx Hx e w':=by
 obtain⟨fn,A,D,B,C,E,G,hf,hb,cA,cB,cC,cE,cG,hnt,hres,hD,hB⟩:=ca_code
 refine calls_of_wp_defers hf hb ?_
 rw[hnt]
 have hlen:=Dh hr
 have sim0:Sim Tryz.prog F g H w (start [.fn (.func n) [] cap] 12) { tmps:=vs.toArray++Array.replicate (12 - vs.toArray.size) undef,defers:=[] }:=by
  refine⟨hs,?_,rfl,hG⟩
  show RL F g w _ _
  simp only[start,Array.toList_append,Array.toList_replicate,List.size_toArray,hlen]
  exact E0 hr (Mg Dc _)
 refine wp_seq (wp_mono (AWp.det (caA_wp (.fn (.func n) [] cap) H) A cA F g w _ sim0) ?_)
 rintro e a1 w1 ⟨x',t1,H1,F1,g1,rfl,⟨rfl,rfl,rfl⟩,⟨s1,tm1,d1,G1⟩,ext1⟩
 simp only[AX.to,Exit.then]
 obtain⟨ta,da⟩:=a1
 simp only at d1
 subst d1
 have tm1:RL F1 g1 w1 _ ta.toList:=tm1
 simp only[caT,RL] at tm1
 obtain⟨v0,_,e0,r0,v1,_,rfl,r1,v2,_,rfl,r2,v3,_,rfl,r3,v4,_,rfl,r4,v5,_,rfl,r5,v6,_,rfl,r6,v7,_,rfl,r7,v8,_,rfl,r8,v9,_,rfl,r9,v10,_,rfl,r10,v11,_,rfl,r11,rfl⟩:=tm1
 obtain rfl:ta= #[v0,v1,v2,v3,v4,v5,v6,v7,v8,v9,v10,v11]:=Array.ext' e0
 obtain⟨c1,ca,rfl,k1,k2⟩:=Ou r0
 simp only[RL] at k1
 obtain rfl:c1= #[]:=by apply Array.ext';simpa using k1
 obtain⟨B1,b1,b2,rfl⟩:=E9 r2
 obtain⟨B2,b3,b4,rfl⟩:=E9 r3
 have u1:=Km r1
 have u4:=Km r4
 have u5:=Km r5
 have u6:=Km r6
 have u7:=Km r7
 have u8:=Km r8
 have u9:=Km r9
 have u10:=Km r10
 have u11:=Km r11
 subst u1 u4 u5 u6 u7 u8 u9 u10 u11
 refine wp_seq (hD _ _ _ _ _ _ _ _ _ _ _ _ _ _ ?_)
 exact h fn B C E G cB cC cE cG hres hB F1 g1 w1 ca B1 B2 s1 G1 ext1 k2 b1 b2 b3 b4
theorem caT_RL {F:Addr→Prop} {g:Gh} {w:World} {n:Nat} {cap:List AV} {ca:Array Value} {m B1 B2:Nat} (hc:RL F g w cap ca.toList) (h1:g.blk m=some B1) (h2:g.tk m=none) (h3:g.blk (m+1)=some B2) (h4:g.tk (m+1)=none) {s5:AV} {v5:Value} (hv:R F g w s5 v5):
 RL F g w (caT (.fn (.func n) [] cap) (.fn (.func 80) [] [.ptr m 0,.ptr (m+1) 0]) s5 .undef .undef .undef .undef .undef .undef m)
  [.func (.func n) #[] ca,undef,.pointer (some ⟨B1,0,none⟩),.pointer (some ⟨B2,0,none⟩),.func (.func 80) #[] #[.pointer (some ⟨B1,0,none⟩),.pointer (some ⟨B2,0,none⟩)],v5,undef,undef,undef,undef,undef,undef]:=by
 have p1:R F g w (.ptr m 0) (.pointer (some ⟨B1,0,none⟩)):=by simp only[R]; exact⟨B1,h1,h2,rfl⟩
 have p2:R F g w (.ptr (m+1) 0) (.pointer (some ⟨B2,0,none⟩)):=by simp only[R]; exact⟨B2,h3,h4,rfl⟩
 simp only[caT,RL]
 refine⟨_,_,rfl,?_,_,_,rfl,Dc,_,_,rfl,p1,_,_,rfl,p2,_,_,rfl,?_,_,_,rfl,hv,_,_,rfl,Dc,_,_,rfl,Dc,_,_,rfl,Dc,_,_,rfl,Dc,_,_,rfl,Dc,_,_,rfl,Dc,rfl⟩
 · simp only[R]; exact⟨#[],ca,rfl,by simp[RL],hc⟩
 · simp only[R]; exact⟨#[],_,rfl,by simp[RL],by simp only[RL]; exact⟨_,_,rfl,p1,_,_,rfl,p2,rfl⟩⟩
theorem Aev {n:Nat} {cap:List AV} {H H':List HB} {e:Int} (hl:H'.length=H.length) (hsc:As H'.length H'=true) (hcl:Ch Tryz.prog n cap (H++cL) e (H'++cL)):
 Ab Tryz.prog I4 [.fn (.func n) [] cap] H (elE (Gx,e)) H':=by
 refine⟨by kernel_rfl,fun F g w vs hG hs hr=>?_⟩
 refine (Ajl (R:=fun w Fx gx Hx e' w'=>Hx=H'∧∃v,e'= .returned v∧R Fx gx w' (elE (Gx,e)) v∧St Fx gx H' w'∧Ext F g H w Fx gx H' w') hG hs hr ?_).mono fun e' w' ⟨Fx,gx,Hx,_,v,h1,h2,h3,h4⟩=>⟨v,Fx,gx,h1,h2,h3,h4⟩
 intro fn B C E G cB cC cE cG hres hB F1 g1 w1 ca B1 B2 s1 G1 ext1 k2 b1 b2 b3 b4
 refine wp_seq (hB n ca _ _ _ _ _ _ _ _ _ _ _ _ _ _ hcl.1 ?_)
 refine (hcl.2 F1 g1 w1 ca.toList G1 s1 k2).mono ?_
 rintro x w' ⟨o,K,F',g',⟨rfl,rfl⟩,s2,ext2,u,rfl,hu⟩
 refine⟨_,rfl,?_⟩
 simp only[Exit.then,bodyPostD]
 have hB1:=(ext2.gh.blk _ _ b1 b2)
 have hB2:=(ext2.gh.blk _ _ b3 b4)
 refine leaves_cons (f:=80) (args:=#[.pointer (some ⟨B1,0,none⟩),.pointer (some ⟨B2,0,none⟩)]) (by simp) (by simp[go_sem]) ?_
 refine (Ax7 (K:=H') (e:=e) s2 (G1.mono ext2.keeps) (by rw[hl]; exact hB1.1) (by rw[hl]; exact hB1.2) (by rw[hl]; exact hB2.1) (by rw[hl]; exact hB2.2) hu).mono ?_
 rintro e' u' w2 ⟨rfl,rfl,L,F2,g2,s3,ext3⟩
 simp only[settle,List.dropWhile]
 have extA:=(ext1.trans ext2).trans ext3
 have hK:=(ext2.trans ext3).keeps
 have tm:=caT_RL (n:=n) (RL.mono hK _ _ k2) ((ext3.gh.blk _ _ hB1.1 hB1.2).1) ((ext3.gh.blk _ _ hB1.1 hB1.2).2) ((ext3.gh.blk _ _ hB2.1 hB2.2).1) ((ext3.gh.blk _ _ hB2.1 hB2.2).2) (s5:=.fn (.func n) [] cap) (v5:=.func (.func n) #[] ca) (by simp only[R]; exact⟨#[],ca,rfl,by simp[RL],RL.mono hK _ _ k2⟩)
 obtain⟨v,Fx,gx,z1,z2,z3,z4⟩:=Ac4 (x:=Gx) hres s3 extA tm (G1.mono hK) (by rw[hl]; rfl) (by rw[hl]; rfl) Afc Wl.symm (Nat.le_of_eq hl.symm) hsc hs.beyond
 exact⟨v,z1,Fx,gx,H',rfl,v,rfl,z2,z3,z4⟩
theorem caB_run {n:Nat} {cap:List AV} {x:El} {H H':List HB} (fv g8:AV) (hfv:fv= .fn (.func n) [] cap) (hl:H'.length=H.length) (hcl:Ab Tryz.prog n cap (H++cL) (Av x) (H'++cL)):
 Du Tryz.prog caB (caT fv g8 .undef .undef .undef .undef .undef .undef .undef H.length) (H++cL) fun t K=>t=caT fv g8 fv (Av x) .undef .undef .undef .undef .undef H'.length∧K=H'++[.var (Bx x),.var [.int .i64 0]]:=by
 have hcl:Ab Tryz.prog n ([]++[]++cap) (H++cL) (Av x) (H'++cL):=by simpa using hcl
 refine Hu ?_
 show AR_ _ _ [] (fun _ t K=>t=caT fv g8 fv (Av x) .undef .undef .undef .undef .undef H'.length∧K=H'++[.var (Bx x),.var [.int .i64 0]]) _ _
 rw[← hl]
 simp -implicitDefEqProofs[caB,Jp,caT,hfv]
 refine Fq hcl ?_
 have z1:35≤Bz.length:=by decide
 have z2:Bz.drop 35=[]:=rfl
 simp -implicitDefEqProofs[cL,Av,hfv,z1,z2]
theorem caC_run {x:El} {b:Bool} (hfm:Ab Tryz.prog Gv [Av x] [] (.bool b) []) {H':List HB} (fv g8 s5 s6:AV):
 Du Tryz.prog caC (caT fv g8 s5 s6 .undef .undef .undef .undef .undef H'.length) (H'++[.var (Bx x),.var [.int .i64 0]]) fun t K=>t=caT fv g8 s5 s6 (Av x) (.bool b) (.bool !b) .undef .undef H'.length∧K=H'++[.var (Bx x),.var [.int .i64 0]]:=by
 refine Hu ?_
 show AR_ _ _ [] (fun _ t K=>t=caT fv g8 s5 s6 (Av x) (.bool b) (.bool !b) .undef .undef H'.length∧K=H'++[.var (Bx x),.var [.int .i64 0]]) _ _
 simp -implicitDefEqProofs[caC,Jp,caT]
 refine Ah hfm (by simp) (by simp) (by simp[Av]) ?_
 simp -implicitDefEqProofs[Av]
theorem caE_run {x:El} {H':List HB} (fv g8 s5 s6 s7 s8 s9:AV):
 Du Tryz.prog caE (caT fv g8 s5 s6 s7 s8 s9 .undef .undef H'.length) (H'++[.var (Bx x),.var [.int .i64 0]]) fun t K=>t=caT fv g8 s5 s6 s7 s8 s9 (.agg Bz) .undef H'.length∧K=H'++[.var Bz,.var [.int .i64 6]]++[]:=by
 refine Hu ?_
 show AR_ _ _ [] (fun _ t K=>t=caT fv g8 s5 s6 s7 s8 s9 (.agg Bz) .undef H'.length∧K=H'++[.var Bz,.var [.int .i64 6]]++[]) _ _
 simp -implicitDefEqProofs[caE,Jp,caT,Bz]
theorem caG_run {x:El} {H':List HB} (fv g8 s5 s6 s7 s8 s9:AV):
 Du Tryz.prog caG (caT fv g8 s5 s6 s7 s8 s9 .undef .undef H'.length) (H'++[.var (Bx x),.var [.int .i64 0]]) fun t K=>t=caT fv g8 s5 s6 s7 s8 s9 .undef (Av x) H'.length∧K=H'++[.var (Bx x),.var [.int .i64 0]]++[]:=by
 refine Hu ?_
 show AR_ _ _ [] (fun _ t K=>t=caT fv g8 s5 s6 s7 s8 s9 .undef (Av x) H'.length∧K=H'++[.var (Bx x),.var [.int .i64 0]]++[]) _ _
 simp -implicitDefEqProofs[caG,Jp,caT,Av]
theorem Af2 {n:Nat} {cap:List AV} {x:El} {H H':List HB} {b:Bool} (hfm:Ab Tryz.prog Gv [Av x] [] (.bool b) []) (hl:H'.length=H.length) (hsc:As H'.length H'=true) (hcl:Ab Tryz.prog n cap (H++cL) (Av x) (H'++cL)):
 Ab Tryz.prog I4 [.fn (.func n) [] cap] H (elE (if b=true then (x,0) else (Gx,6))) H':=by
 refine⟨by kernel_rfl,fun F g w vs hG hs hr=>?_⟩
 refine (Ajl (R:=fun w Fx gx Hx e' w'=>Hx=H'∧∃v,e'= .returned v∧R Fx gx w' (elE (if b=true then (x,0) else (Gx,6))) v∧St Fx gx H' w'∧Ext F g H w Fx gx H' w') hG hs hr ?_).mono fun e' w' ⟨Fx,gx,Hx,_,v,h1,h2,h3,h4⟩=>⟨v,Fx,gx,h1,h2,h3,h4⟩
 intro fn B C E G cB cC cE cG hres hB F1 g1 w1 ca B1 B2 s1 G1 ext1 k2 b1 b2 b3 b4
 clear hB
 have tm0:=caT_RL (n:=n) k2 b1 b2 b3 b4 (s5:=.undef) (v5:=undef) Dc
 have simB:Ji Tryz.prog [{ target:=.fn (.func 80) #[.pointer (some ⟨B1,0,none⟩),.pointer (some ⟨B2,0,none⟩)],args:=#[] }] F1 g1 (H++cL) w1 (caT (.fn (.func n) [] cap) (.fn (.func 80) [] [.ptr H.length 0,.ptr (H.length+1) 0]) .undef .undef .undef .undef .undef .undef .undef H.length)
  { tmps:=#[.func (.func n) #[] ca,undef,.pointer (some ⟨B1,0,none⟩),.pointer (some ⟨B2,0,none⟩),.func (.func 80) #[] #[.pointer (some ⟨B1,0,none⟩),.pointer (some ⟨B2,0,none⟩)],undef,undef,undef,undef,undef,undef,undef],defers:=[{ target:=.fn (.func 80) #[.pointer (some ⟨B1,0,none⟩),.pointer (some ⟨B2,0,none⟩)],args:=#[] }] }:=⟨s1,tm0,rfl,G1⟩
 refine wp_seq (Vm cB simB (caB_run _ _ rfl hl hcl) ?_ D4.none)
 rintro F2 g2 H2 w2 t2 a2 ⟨s2,tm2,d2,G2⟩ ext2 ⟨rfl,rfl⟩
 simp only[Exit.then]
 refine wp_seq (wp_seq (Vm cC ⟨s2,tm2,d2,G2⟩ (caC_run hfm _ _ _ _) ?_ D4.none))
 rintro F3 g3 H3 w3 t3 a3 ⟨s3,tm3,d3,G3⟩ ext3 ⟨rfl,rfl⟩
 simp only[Exit.then]
 have hcond:a3.eval (.tmp 9)= .bool (!b):=by
  obtain⟨v,f1,f2⟩:=I7 (show RL F3 g3 w3 _ a3.tmps.toList from tm3) 9 (.bool !b) rfl
  obtain rfl:=J2 f2
  show a3.tmps.getD 9 undef=_
  simp only[Array.getElem?_toList] at f1
  simp[Array.getD_eq_getD_getElem?,f1]
 refine wp_cond hcond ?_
 have extA:=(ext1.trans ext2).trans ext3
 cases b
 · simp only[Bool.not_false,if_true]
   refine wp_seq (Vm cE ⟨s3,tm3,d3,G3⟩ (caE_run _ _ _ _ _ _ _) ?_ D4.none)
   rintro F4 g4 H4 w4 t4 a4 ⟨s4,tm4,d4,G4⟩ ext4 ⟨rfl,rfl⟩
   simp only[Exit.then]
   refine wp_ret ?_
   show Leaves Tryz.prog fn a4.tmps _ a4.defers .returning w4
   rw[d4]
   refine Api ?_
   obtain⟨v,Fx,gx,z1,z2,z3,z4⟩:=Ac4 (x:=Gx) (e:=6) hres s4 (extA.trans ext4) tm4 G4 rfl rfl Afc Wl.symm (Nat.le_of_eq hl.symm) hsc hs.beyond
   exact⟨v,z1,Fx,gx,H',rfl,v,rfl,z2,z3,z4⟩
 · simp only[Bool.not_true,Bool.false_eq_true,if_false]
   refine wp_skip ?_
   simp only[Exit.then]
   refine wp_seq (Vm cG ⟨s3,tm3,d3,G3⟩ (caG_run _ _ _ _ _ _ _) ?_ D4.none)
   rintro F4 g4 H4 w4 t4 a4 ⟨s4,tm4,d4,G4⟩ ext4 ⟨rfl,rfl⟩
   simp only[Exit.then]
   refine wp_ret ?_
   show Leaves Tryz.prog fn a4.tmps _ a4.defers .returning w4
   rw[d4]
   refine Api ?_
   obtain⟨v,Fx,gx,z1,z2,z3,z4⟩:=Ac4 (x:=x) (e:=0) hres s4 (extA.trans ext4) tm4 G4 rfl rfl (el_take x) (Axg x) (Nat.le_of_eq hl.symm) hsc hs.beyond
   exact⟨v,z1,Fx,gx,H',rfl,v,rfl,z2,z3,z4⟩
theorem Adl {n:Nat} {cap:List AV} {x:El} {H H':List HB} (hl:H'.length=H.length) (hsc:As H'.length H'=true) (hcl:Ab Tryz.prog n cap (H++cL) (Av x) (H'++cL)) (hx:elB x):
 Ab Tryz.prog I4 [.fn (.func n) [] cap] H (elE (caR x)) H':=Af2 (Yg x hx) hl hsc hcl
end Go.Proofs.YtemdkfnenjpioaaGreatDoor
namespace Go.Proofs.YtemdkfnenjpioaaGreatDoor
open Go
attribute [local simp] Ar aev Ax A7 start AV.cells AV.undef Bc Be Bh Bl Bj AV.isCell Bf A1 Bi
attribute [local simp] fin A9 A8 Bb AV.strip Ay A5 AV.inScope Am A0 As
theorem aw_sub:suS Is [Eu,Ef 0,Ef 1]=(Fi,0):=by kernel_rfl
theorem aw_shi:shM Is 3 3=(Is,0):=by kernel_rfl
def Aic:D7:=fun f args H=>match Aae f args H with
 | some r=>some r
 | none=>match Nat.beq f Io,H6 (Ay args) [An Is,.int .i64 3,.int .i64 3] with
   | true,true=>some (An Is,H)
   | _,_=>match Nat.beq f Xt,H6 (Ay args) [An Is,.sl .none ([Eu,Ef 0,Ef 1].map Ai)] with
     | true,true=>some (smE (Fi,0),H)
     | _,_=>match Nat.beq f Mf,H6 (Ay args) [An Fi] with
       | true,true=>some (smE (Fi,0),H)
       | _,_=>none
theorem A2g (f:FuncId) (args:List AV) (H:List HB) (v:AV) (H':List HB) (h:Aic f args H=some (v,H')):Ab Tryz.prog f args H v H':=by
 unfold Aic at h
 split at h
 · rename_i r hr
   simp only[Option.some.injEq] at h
   subst h
   exact Js _ _ _ _ _ hr
 · split at h
   · rename_i hf ha
     cases h
     rw[Nat.eq_of_beq_eq_true hf]
     have:=Aor Is 3 3 Aa4 (by decide) (by decide) (by decide) (by decide)
     rw[aw_shi] at this
     exact ((this.1 rfl).lift (by simp) (by simp) H).args (Kj _ _ ha)
   · split at h
     · rename_i hf ha
       cases h
       rw[Nat.eq_of_beq_eq_true hf]
       have:=A2m Is [Eu,Ef 0,Ef 1] Aa4 (fun x hx=>by
        simp only[List.mem_cons,List.not_mem_nil,or_false] at hx
        rcases hx with rfl | rfl | rfl<;>decide)
       rw[aw_sub] at this
       exact (this.lift (by simp) (Lr _ 0) H).args (Kj _ _ ha)
     · split at h
       · rename_i hf ha
         cases h
         rw[Nat.eq_of_beq_eq_true hf]
         exact (Axj.lift (by simp) (Lr _ 0) H).args (Kj _ _ ha)
       · cases h
def Ow:List Kd:=[.mk [],.mk []]
def aw_k:Kd:=.mk [.mk [],.mk [.mk [],.mk []]]
def V2:Te:=.mk 10 0 [] Az Az (.mk []) [] []
def I8:El:=⟨[aw_k],[I9],true,Fi,V2⟩
def L5:List HB:=[.var (Bx Hv),.var [.sl .none (Ow.map Ao)],.var F6]
set_option maxRecDepth 1000000 in
theorem A2b:Ab Tryz.prog Pt [.ptr 0 0,.ptr 1 0] (L5++cL) (Av I8) (L5++cL):=I5 mixed Jz A2g 40 _ _ _ _ _ (by kernel_rfl)
end Go.Proofs.YtemdkfnenjpioaaGreatDoor
