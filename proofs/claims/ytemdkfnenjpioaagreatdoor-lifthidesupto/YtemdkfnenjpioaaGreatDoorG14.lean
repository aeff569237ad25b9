/- Joined: Cut Suf Hps FS. -/
import Derived.Test.YtemdkfnenjpioaaGreatDoorG13
set_option linter.unusedSimpArgs false
set_option linter.unusedVariables false
set_option linter.unusedSectionVars false
set_option linter.all false
set_option maxHeartbeats 4000000
set_option maxRecDepth 10000
namespace Go.Proofs.YtemdkfnenjpioaaGreatDoor
open Go
variable [Cc]
theorem WP_cutG {P:Program} {a b:AC} {k:List Fr} {Q:Bg} {t:List AV} {H:List HB} (I:(Nat→AV)→List HB→Prop)
 (h1: ∀Q':Bg,(∀ t' G,At t a.dsts (Aq t')=t'→I (Aq t') G→Q' .normal t' (H++G))→(∀ t' H',KR P k Q t' H'→Q' .ret t' H')→WP P a [] Q' t H)
 (h2: ∀f G,I f G→WP P b k Q (At t a.dsts f) (H++G)):WP P (.seq a b) k Q t H:=by
 rw[A3]
 have h:=h1 (kq P (.code b :: k) Q) (fun t' G e hI=>by
  have:=h2 _ G hI
  rw[e] at this
  exact this) (fun t' H' h=>h)
 have e:kq P [] (kq P (.code b :: k) Q)=kq P (.code b :: k) Q:=by funext x t H;rfl
 unfold WP at h ⊢
 rw[e] at h
 exact h
theorem E2 {P:Program} {a b:AC} {k:List Fr} {Q:Bg} {t:List AV} {H:List HB} (I:(Nat→AV)→Prop)
 (h1: ∀Q':Bg,(∀ t',At t a.dsts (Aq t')=t'→I (Aq t')→Q' .normal t' H)→(∀ t' H',KR P k Q t' H'→Q' .ret t' H')→WP P a [] Q' t H)
 (h2: ∀f,I f→WP P b k Q (At t a.dsts f) H):WP P (.seq a b) k Q t H:=
 WP_cutG (fun f G=>I f∧G=[]) (fun Q' hn hr=>h1 Q' (fun t' e hI=>by simpa using hn t' [] e ⟨hI,rfl⟩) hr) (fun f G hI=>by rw[hI.2,List.append_nil]; exact h2 f hI.1)
end Go.Proofs.YtemdkfnenjpioaaGreatDoor
namespace Go.Proofs.YtemdkfnenjpioaaGreatDoor
open Go
theorem St.ltB {F:Addr→Prop} {g:Gh} {H:List HB} {w:World} (hs:St F g H w) {b B:Nat} (h:g.blk b=some B):b < H.length∧B < w.heap.size:=by
 have hb:b < H.length:=by
  rcases Nat.lt_or_ge b H.length with hb | hb
  · exact hb
  · rw[(hs.beyond b hb).1] at h;cases h
 refine⟨hb,?_⟩
 have hg:=List.getElem?_eq_getElem hb
 cases hx:H[b] with
 | var cs=>
   obtain⟨B',vs,e,q1,q2,q3,_⟩:=hs.var b cs (by rw[hg,hx])
   rw[q1] at h;cases h
   exact B9 q3
 | tvar e cs=>
   obtain⟨B',vs,q1,q2,q3,_⟩:=hs.tvar b e cs (by rw[hg,hx])
   rw[q1] at h;cases h
   exact B9 q3
 | tok n k ty=>
   obtain⟨B',cap,vs,e,fr,q1,q2,q3,_⟩:=hs.tok b n k _ (by rw[hg,hx])
   rw[q1] at h;cases h
   exact B9 q3
 | mp ks=>
   rcases hs.mp b _ (by rw[hg,hx]) with⟨_,q1,_⟩ | ⟨B',es,ck,q1,q2,q3,_⟩
   · rw[q1] at h;cases h
   · rw[q1] at h;cases h
     exact B9 q3
theorem Ab.suffix {P:Program} {f:FuncId} {args:List AV} {H H':List HB} {res:AV} (h:Ab P f args H res H') (hl:H'.length=H.length) (ha:Am H.length args=true) (hsc:As H.length H=true) (L:List HB):Ab P f args (H++L) res (H'++L):=by
 refine⟨h.1,fun F g w vs hG hs hr=>?_⟩
 let g0:Gh:=⟨fun b=>if b < H.length then g.blk b else none,fun b=>if b < H.length then g.tk b else none⟩
 have e1: ∀b,b < H.length→g0.blk b=g.blk b∧g0.tk b=g.tk b:=fun b hb=>⟨if_pos hb,if_pos hb⟩
 have e2: ∀b,¬b < H.length→g0.blk b=none∧g0.tk b=none:=fun b hb=>⟨if_neg hb,if_neg hb⟩
 have e3: ∀b B,g0.blk b=some B→b < H.length∧g.blk b=some B:=fun b B hb=>by
  by_cases hlt:b < H.length
  · exact⟨hlt,by rw[← (e1 b hlt).1]; exact hb⟩
  · rw[(e2 b hlt).1] at hb;cases hb
 have hs0:St F g0 H w:=by
  refine⟨hs.live,fun b hb=>e2 b (by omega),fun b b' B h1 h2=>hs.inj b b' B (e3 b B h1).2 (e3 b' B h2).2,fun b cs hb=>?_,fun t n k ty ht=>?_,hs.spots,fun b e cs hb=>?_,fun b ks hb=>?_⟩
  · have hlt:=(List.getElem?_eq_some_iff.1 hb).1
    obtain⟨B,us,e,q1,q2,q3,q4,q5⟩:=hs.var b cs (by rw[List.getElem?_append_left hlt]; exact hb)
    exact⟨B,us,e,(e1 b hlt).1.trans q1,(e1 b hlt).2.trans q2,q3,Fm e1 _ _ (Pb hsc b cs hb) q4,q5⟩
  · have hlt:=(List.getElem?_eq_some_iff.1 ht).1
    obtain⟨B,cap,us,e,fr,q1,q2,q3⟩:=hs.tok t n k _ (by rw[List.getElem?_append_left hlt]; exact ht)
    exact⟨B,cap,us,e,fr,(e1 t hlt).1.trans q1,(e1 t hlt).2.trans q2,q3⟩
  · have hlt:=(List.getElem?_eq_some_iff.1 hb).1
    obtain⟨B,us,q1,q2,q3,q4,q5⟩:=hs.tvar b e cs (by rw[List.getElem?_append_left hlt]; exact hb)
    exact⟨B,us,(e1 b hlt).1.trans q1,(e1 b hlt).2.trans q2,q3,Fm e1 _ _ (Qt hsc b e cs hb) q4,q5⟩
  · have hlt:=(List.getElem?_eq_some_iff.1 hb).1
    rcases hs.mp b _ (by rw[List.getElem?_append_left hlt]; exact hb) with⟨q0,q1,q2⟩ | ⟨B,es,ck,q1,q2,q3⟩
    · exact .inl ⟨q0,(e1 b hlt).1.trans q1,(e1 b hlt).2.trans q2⟩
    · exact .inr ⟨B,es,ck,(e1 b hlt).1.trans q1,(e1 b hlt).2.trans q2,q3⟩
 refine (h.2 F g0 w vs hG hs0 (Fm e1 _ _ ha hr)).mono ?_
 rintro e w' ⟨v,F',g',rfl,hv,hs',hx⟩
 let g2:Gh:=⟨fun b=>if b < H.length then g'.blk b else g.blk b,fun b=>if b < H.length then g'.tk b else g.tk b⟩
 have d1: ∀b,b < H.length→g2.blk b=g'.blk b∧g2.tk b=g'.tk b:=fun b hb=>⟨if_pos hb,if_pos hb⟩
 have d2: ∀b,¬b < H.length→g2.blk b=g.blk b∧g2.tk b=g.tk b:=fun b hb=>⟨if_neg hb,if_neg hb⟩
 have hlt': ∀b B,g'.blk b=some B→b < H.length:=fun b B hb=>by have:=(hs'.ltB hb).1;omega
 have le1:g'.le g2:=by
  refine⟨fun b B h1 h2=>?_,fun t m c h1=>?_⟩
  · have hb:=d1 b (hlt' b B h1)
    exact⟨hb.1.trans h1,hb.2.trans h2⟩
  · have ht:t < H.length:=by
     rcases Nat.lt_or_ge t H.length with ht | ht
     · exact ht
     · rw[(hs'.beyond t (by omega)).2] at h1;cases h1
    have hb:=d1 t ht
    exact⟨m,c,hb.2.trans h1,Nat.le_refl _,fun _=>⟨rfl,hb.1⟩⟩
 have le2:g.le g2:=by
  refine⟨fun b B h1 h2=>?_,fun t m c h1=>?_⟩
  · by_cases hb:b < H.length
    · obtain⟨p,q⟩:=hx.gh.blk b B ((e1 b hb).1.trans h1) ((e1 b hb).2.trans h2)
      exact⟨(d1 b hb).1.trans p,(d1 b hb).2.trans q⟩
    · exact⟨(d2 b hb).1.trans h1,(d2 b hb).2.trans h2⟩
  · by_cases ht:t < H.length
    · obtain⟨m',c',p,q,r⟩:=hx.gh.tk t m c ((e1 t ht).2.trans h1)
      refine⟨m',c',(d1 t ht).2.trans p,q,fun e=>?_⟩
      obtain⟨r1,r2⟩:=r e
      exact⟨r1,(d1 t ht).1.trans (r2.trans (e1 t ht).1)⟩
    · exact⟨m,c,(d2 t ht).2.trans h1,Nat.le_refl _,fun _=>⟨rfl,(d2 t ht).1⟩⟩
 have K1:Cr F' g' w' F' g2 w':=⟨fun _ h=>h,fun _ _=>rfl,le1⟩
 have K2:Cr F g w F' g2 w':=⟨hx.sub,hx.keep,le2⟩
 have hfr: ∀b B,¬b < H.length→g.blk b=some B→w'.heap[B]? =w.heap[B]?:=fun b B hb h1=>by
  refine hx.frame B (hs.ltB h1).2 fun b' hb' h2=>?_
  have:=hs.inj b b' B h1 (e3 b' B h2).2
  omega
 have hnew: ∀b B off,¬b < H.length→g.blk b=some B→¬F ⟨B,off,none⟩→¬F' ⟨B,off,none⟩:=fun b B off hb h1 h2 h3=>by
  rcases hx.new _ h3 with h | h | ⟨t,ht,_,h⟩
  · exact h2 h
  · have:=(hs.ltB h1).2;simp only at h;omega
  · have:=hs.inj b t B h1 (e3 t B h).2
    omega
 refine⟨v,F',g2,rfl,R.mono K1 res v hv,⟨hs'.live,fun b hb=>?_,fun b b' B h1 h2=>?_,fun b cs hb=>?_,fun t n k ty ht=>?_,hs'.spots,fun b e cs hb=>?_,fun b ks hb=>?_⟩,⟨hx.sub,hx.keep,le2,hx.size,fun B hB hn=>?_,fun a ha=>?_,fun b B hb h1=>?_,by simp;omega,hx.io⟩⟩
 · simp only[List.length_append,hl] at hb
   have hb': ¬b < H.length:=by omega
   have:=hs.beyond b (by simpa using hb)
   exact⟨(d2 b hb').1.trans this.1,(d2 b hb').2.trans this.2⟩
 · have cross: ∀b b',b < H.length→¬b' < H.length→g'.blk b=some B→g.blk b'=some B→False:=fun b b' hb hb' q1 q2=>by
    rcases hx.blks b B (by omega) q1 with⟨_,q3⟩ | q3
    · have:=hs.inj b b' B (e3 b B q3).2 q2;omega
    · have:=(hs.ltB q2).2;omega
   by_cases hb:b < H.length<;>by_cases hb':b' < H.length
   · rw[(d1 b hb).1] at h1;rw[(d1 b' hb').1] at h2;exact hs'.inj b b' B h1 h2
   · rw[(d1 b hb).1] at h1;rw[(d2 b' hb').1] at h2;exact (cross b b' hb hb' h1 h2).elim
   · rw[(d2 b hb).1] at h1;rw[(d1 b' hb').1] at h2;exact (cross b' b hb' hb h2 h1).elim
   · rw[(d2 b hb).1] at h1;rw[(d2 b' hb').1] at h2;exact hs.inj b b' B h1 h2
 · by_cases hlt:b < H.length
   · rw[List.getElem?_append_left (by omega)] at hb
     obtain⟨B,us,e,q1,q2,q3,q4,q5⟩:=hs'.var b cs hb
     exact⟨B,us,e,(d1 b hlt).1.trans q1,(d1 b hlt).2.trans q2,q3,RL.mono K1 _ _ q4,q5⟩
   · rw[List.getElem?_append_right (by omega),hl] at hb
     obtain⟨B,us,e,q1,q2,q3,q4,q5⟩:=hs.var b cs (by rw[List.getElem?_append_right (by omega)]; exact hb)
     exact⟨B,us,e,(d2 b hlt).1.trans q1,(d2 b hlt).2.trans q2,(hfr b B hlt q1).trans q3,RL.mono K2 _ _ q4,fun off=>hnew b B off hlt q1 (q5 off)⟩
 · by_cases hlt:t < H.length
   · rw[List.getElem?_append_left (by omega)] at ht
     obtain⟨B,cap,us,e,fr,q1,q2,q3⟩:=hs'.tok t n k _ ht
     exact⟨B,cap,us,e,fr,(d1 t hlt).1.trans q1,(d1 t hlt).2.trans q2,q3⟩
   · rw[List.getElem?_append_right (by omega),hl] at ht
     obtain⟨B,cap,us,e,fr,q1,q2,q3,q4,q5,q6⟩:=hs.tok t n k _ (by rw[List.getElem?_append_right (by omega)]; exact ht)
     exact⟨B,cap,us,e,fr,(d2 t hlt).1.trans q1,(d2 t hlt).2.trans q2,(hfr t B hlt q1).trans q3,q4,q5,fun off ho=>hnew t B off hlt q1 (q6 off ho)⟩
 · by_cases hlt:b < H.length
   · rw[List.getElem?_append_left (by omega)] at hb
     obtain⟨B,us,q1,q2,q3,q4,q5⟩:=hs'.tvar b e cs hb
     exact⟨B,us,(d1 b hlt).1.trans q1,(d1 b hlt).2.trans q2,q3,RL.mono K1 _ _ q4,q5⟩
   · rw[List.getElem?_append_right (by omega),hl] at hb
     obtain⟨B,us,q1,q2,q3,q4,q5⟩:=hs.tvar b e cs (by rw[List.getElem?_append_right (by omega)]; exact hb)
     exact⟨B,us,(d2 b hlt).1.trans q1,(d2 b hlt).2.trans q2,(hfr b B hlt q1).trans q3,RL.mono K2 _ _ q4,fun off=>hnew b B off hlt q1 (q5 off)⟩
 · by_cases hlt:b < H.length
   · rw[List.getElem?_append_left (by omega)] at hb
     rcases hs'.mp b _ hb with⟨q0,q1,q2⟩ | ⟨B,es,ck,q1,q2,q3,q4⟩
     · exact .inl ⟨q0,(d1 b hlt).1.trans q1,(d1 b hlt).2.trans q2⟩
     · exact .inr ⟨B,es,ck,(d1 b hlt).1.trans q1,(d1 b hlt).2.trans q2,q3,q4⟩
   · rw[List.getElem?_append_right (by omega),hl] at hb
     rcases hs.mp b _ (by rw[List.getElem?_append_right (by omega)]; exact hb) with⟨q0,q1,q2⟩ | ⟨B,es,ck,q1,q2,q3,q4⟩
     · exact .inl ⟨q0,(d2 b hlt).1.trans q1,(d2 b hlt).2.trans q2⟩
     · exact .inr ⟨B,es,ck,(d2 b hlt).1.trans q1,(d2 b hlt).2.trans q2,(hfr b B hlt q1).trans q3,q4⟩
 · exact hx.frame B hB fun b hb h2=>hn b (by simp;omega) (e3 b B h2).2
 · rcases hx.new a ha with h | h | ⟨t,ht,q1,q2⟩
   · exact .inl h
   · exact .inr (.inl h)
   · exact .inr (.inr ⟨t,by simp;omega,by rw[← (e1 t ht).2]; exact q1,(e3 t _ q2).2⟩)
 · by_cases hlt:b < H.length
   · rw[(d1 b hlt).1] at h1
     rcases hx.blks b B (by omega) h1 with⟨_,q⟩ | q
     · exact .inl ⟨by simp;omega,(e3 b B q).2⟩
     · exact .inr q
   · rw[(d2 b hlt).1] at h1
     exact .inl ⟨(hs.ltB h1).1,h1⟩
@[simp] theorem Ahm (A B:List HB):(A++B)[A.length]? =B[0]?:=by rw[List.getElem?_append_right (Nat.le_refl _)]; congr 1;omega
@[simp] theorem Aqe (A B:List HB) (j:Nat):(A++B)[A.length+j]? =B[j]?:=by
 rw[List.getElem?_append_right (by omega)]; congr 1;omega
@[simp] theorem set_app (A B:List HB) (x:HB):(A++B).set A.length x=A++B.set 0 x:=by
 rw[List.set_append_right _ _ (by omega)]; congr 2;omega
@[simp] theorem Awo (A B:List HB) (j:Nat) (x:HB):(A++B).set (A.length+j) x=A++B.set j x:=by
 rw[List.set_append_right _ _ (by omega)]; congr 2;omega
theorem Ei (n:Nat): ∀(A B:List HB),As n (A++B)=(As n A && As n B)
 | [],B=>by simp[As]
 | .var cs :: A,B=>by simp[As,Ei n A B,Bool.and_assoc]
 | .tvar _ cs :: A,B=>by simp[As,Ei n A B,Bool.and_assoc]
 | .tok _ _ _ :: A,B=>by simp[As,Ei n A B]
 | .mp _ :: A,B=>by simp[As,Ei n A B]
structure Hps {σ :Type} (S: σ→List HB) (m:Nat):Prop where
 len: ∀s,(S s).length=m
 sc: ∀s k,m≤k→As k (S s)=true
section
variable {σ :Type} {S: σ→List HB} {m:Nat}
theorem Hps.at0 (h:Hps S m) (s: σ) (L:List HB):(S s++L)[m]? =L[0]?:=by
 rw[← h.len s]; exact Ahm _ _
theorem Hps.get (h:Hps S m) (s: σ) (L:List HB) (j:Nat):(S s++L)[m+j]? =L[j]?:=by
 rw[← h.len s]; exact Aqe _ _ _
theorem Hps.set (h:Hps S m) (s: σ) (L:List HB) (j:Nat) (x:HB):(S s++L).set (m+j) x=S s++L.set j x:=by
 rw[← h.len s]; exact Awo _ _ _ _
theorem Hps.low (h:Hps S m) (s: σ) (L:List HB) {p:Nat} (hp:p < m):(S s++L)[p]? =(S s)[p]?:=List.getElem?_append_left (by rw[h.len]; exact hp)
theorem Hps.setLow (h:Hps S m) (s: σ) (L:List HB) {p:Nat} (hp:p < m) (x:HB):(S s++L).set p x=(S s).set p x++L:=by
 rw[List.set_append_left _ _ (by rw[h.len]; exact hp)]
theorem Hps.scA (h:Hps S m) (s: σ) (L:List HB) {k:Nat} (hk:m≤k):As k (S s++L)=As k L:=by
 rw[Ei,h.sc s k hk]; rfl
theorem Hps.more (h:Hps S m) (L:List HB) (hs: ∀k,m+L.length≤k→As k L=true):Hps (fun s=>S s++L) (m+L.length) where
 len s:=by simp[h.len]
 sc s k hk:=by rw[h.scA s L (by omega)]; exact hs k hk
end
def Xl {σ :Type} (S: σ→List HB) (t0:List AV) (ds:List Nat) (I:Nat→(Nat→AV)→σ→List HB→Prop) (n:Nat) (Q:AX→List AV→List HB→Prop):AX→List AV→List HB→Prop:=
 Lp (fun t' H'=>At t0 ds (Aq t')=t'∧∃m s' G',m < n∧H'=S s'++G'∧I m (Aq t') s' G') Q
variable [Cc]
theorem AWp.loopS {σ :Type} (S: σ→List HB) {P:Program} {x:AC} {t0:List AV} {H0:List HB} {Q:AX→List AV→List HB→Prop} (I:Nat→(Nat→AV)→σ→List HB→Prop) (n0:Nat) (s0: σ) (G0:List HB) (hH:H0=S s0++G0)
 (h0:I n0 (Aq t0) s0 G0) (hr: ∀n f s G,I n f s G→AWp P x (At t0 x.dsts f) (S s++G) (Xl S t0 x.dsts I n Q)):AWp P (.loop x) t0 H0 Q:=by
 refine AWp.loop (fun n t H=>∃f s G,t=At t0 x.dsts f∧H=S s++G∧I n f s G) n0 ⟨Aq t0,s0,G0,(Xd _ _).symm,hH,h0⟩ ?_
 rintro n t H ⟨f,s,G,rfl,rfl,hI⟩
 refine AWp.mono (hr n f s G hI) ?_
 intro e t' H' hq
 cases e with
 | normal=>
   obtain⟨e1,m,s',G',hm,e2,hI'⟩:=hq
   exact⟨m,hm,Aq t',s',G',e1.symm,e2,hI'⟩
 | exit _=>exact hq
 | ret=>exact hq
omit [Cc] in
theorem Ia {σ :Type} {S: σ→List HB} {t0 t':List AV} {ds:List Nat} {H':List HB} {Q:AX→List AV→List HB→Prop} {I:Nat→(Nat→AV)→σ→List HB→Prop} {n:Nat} (m:Nat) (s': σ) {G':List HB} (hH:H'=S s'++G') (hm:m < n)
 (ht:At t0 ds (Aq t')=t') (hI:I m (Aq t') s' G'):Xl S t0 ds I n Q .normal t' H':=⟨ht,m,s',G',hm,hH,hI⟩
omit [Cc] in
theorem Jm {σ :Type} {S: σ→List HB} {t0 t':List AV} {ds:List Nat} {H':List HB} {Q:AX→List AV→List HB→Prop} {I:Nat→(Nat→AV)→σ→List HB→Prop} {n i:Nat} (h:Q (.exit i) t' H'):Xl S t0 ds I n Q (.exit i) t' H':=h
omit [Cc] in
theorem Sb {σ :Type} {S: σ→List HB} {t0 t':List AV} {ds:List Nat} {H':List HB} {Q:AX→List AV→List HB→Prop} {I:Nat→(Nat→AV)→σ→List HB→Prop} {n:Nat} (h:Q .ret t' H'):Xl S t0 ds I n Q .ret t' H':=h
theorem Afp {P:Program} {a b:AC} {k:List Fr} {Q:Bg} {t:List AV} {H:List HB} (I:(Nat→AV)→List HB→Prop)
 (h1: ∀Q':Bg,(∀ t' H',At t a.dsts (Aq t')=t'→I (Aq t') H'→Q' .normal t' H')→(∀ t' H',KR P k Q t' H'→Q' .ret t' H')→WP P a [] Q' t H)
 (h2: ∀f H',I f H'→WP P b k Q (At t a.dsts f) H'):WP P (.seq a b) k Q t H:=by
 rw[A3]
 have h:=h1 (kq P (.code b :: k) Q) (fun t' G e hI=>by
  have:=h2 _ G hI
  rw[e] at this
  exact this) (fun t' H' h=>h)
 have e:kq P [] (kq P (.code b :: k) Q)=kq P (.code b :: k) Q:=by funext x t H;rfl
 unfold WP at h ⊢
 rw[e] at h
 exact h
theorem Qx {ι :Type} {P:Program} {a b:AC} {k:List Fr} {Q:Bg} {t:List AV} {H:List HB} (S: ι→List HB) (I: ι→(Nat→AV)→Prop)
 (h1: ∀Q':Bg,(∀ (i: ι) (t':List AV),At t a.dsts (Aq t')=t'→I i (Aq t')→Q' .normal t' (S i))→(∀ t' H',KR P k Q t' H'→Q' .ret t' H')→WP P a [] Q' t H)
 (h2: ∀(i: ι) (f:Nat→AV),I i f→WP P b k Q (At t a.dsts f) (S i)):WP P (.seq a b) k Q t H:=by
 refine Afp (fun f H'=>∃i,H'=S i∧I i f) (fun Q' hn hr=>h1 Q' (fun i t' e h=>hn t' _ e ⟨i,rfl,h⟩) hr) ?_
 rintro f H' ⟨i,rfl,h⟩
 exact h2 i f h
structure C6 where
 a:AV
 b:AV
 c:AV
 d:AV
 e:AV
 f:AV
def C6.l (x:C6):List AV:=[x.a,x.b,x.c,x.d,x.e,x.f]
def Bw {α σ :Type} (q: α→σ→Bool × σ):List α→σ→Bool × σ
 | [],s=>(false,s)
 | x :: l,s=>if (q x s).1=true then (true,(q x s).2) else Bw q l (q x s).2
def B8 {α σ :Type} (q: α→σ→Bool × σ):List α→Nat→σ→Int × σ
 | [],_,s=>(-1,s)
 | x :: l,i,s=>if (q x s).1=true then ((i:Int),(q x s).2) else B8 q l (i+1) (q x s).2
theorem Pj {α σ :Type} (q: α→σ→Bool × σ): ∀(l:List α) (i:Nat) (s: σ),decide (0≤(B8 q l i s).1)=(Bw q l s).1∧(B8 q l i s).2=(Bw q l s).2
 | [],i,s=>by simp[B8,Bw]
 | x :: l,i,s=>by
   have:=Pj q l (i+1) (q x s).2
   cases h:(q x s).1<;>simp[B8,Bw,h,this]
end Go.Proofs.YtemdkfnenjpioaaGreatDoor
namespace Go.Proofs.YtemdkfnenjpioaaGreatDoor
open Go
attribute [local simp] Ar aev Ax A7 start AV.cells AV.undef Bc Be Bh Bl Bj AV.isCell Bf A1 Bi
attribute [local simp] fin A9 A8 Bb AV.strip Ay A5 AV.inScope Am A0 As
theorem Avo {σ :Type} {S: σ→List HB} {m:Nat} (hS:Hps S m) (l:List Kd) (q:Kd→σ→Bool × σ) (fn:Nat) (cap:List AV) (hcap:Am m cap=true) (hp: ∀x ∈ l,∀s,Ab Tryz.prog fn ([Ag x]++cap) (S s) (.bool (q x s).1) (S (q x s).2)) (s0: σ):
 Ab Tryz.prog Ok [.sl .none (l.map Ao),.fn (.func fn) [] cap] (S s0) (.int .i64 (B8 q l 0 s0).1) (S (B8 q l 0 s0).2):=by
 refine Ab.go mixed Abi (by simp[hS.len]) fun hfit Q hQ=>?_
 have hln:l.length≤1073741824:=by simpa[Bn,AV.fits,A4] using hfit.1.1
 clear hfit
 have hsc:=fun s=>hS.sc s m (Nat.le_refl _)
 simp -implicitDefEqProofs[Xu]
 refine B5 (AWp.loopS S (fun n f s G=>∃k:Nat,k+n=l.length∧f 8= .int .i64 k∧B8 q (l.drop k) k s=B8 q l 0 s0) l.length s0 [] (by simp) ⟨0,by simp,rfl,by simp⟩ ?_)
 rintro n f s G ⟨k,hk,h8,hs⟩
 refine AWp.run mixed fun Q2 hQ2=>?_
 simp -implicitDefEqProofs[AC.dsts,Au,At,Bo,h8]
 by_cases hlt:k < l.length
 · have hd:=List.drop_eq_getElem_cons hlt
   simp -implicitDefEqProofs[hlt]
   refine Fq (first:=[]) (r:=.bool (q l[k] s).1) (H':=S (q l[k] s).2++G) (by simpa[Ag] using (hp l[k] (List.getElem_mem _) s).suffix (by simp[hS.len]) (by simp[Na,Am,hS.len,hcap]) (by rw[hS.len]; exact hsc s) G) ?_
   simp -implicitDefEqProofs
   refine Cl (fun hb=>?_) (fun hb=>?_)
   · have e:B8 q l 0 s0=((k:Int),(q l[k] s).2):=by rw[← hs,hd]; simp[B8,hb]
     simp -implicitDefEqProofs
     refine hQ2 _ _ _ (Sb ?_)
     show KR _ _ Q _ _
     simp -implicitDefEqProofs
     refine hQ _ _ _ ?_
     simp -implicitDefEqProofs[e,hS.len,hsc]
   · simp -implicitDefEqProofs[Ba (n:=(k:Int)+1) (by omega) (by omega)]
     refine hQ2 _ _ _ (Ia (n - 1) (q l[k] s).2 (G':=G) rfl (by omega) (by simp -implicitDefEqProofs[AC.dsts,Au,At,Aq]) ?_)
     refine⟨k+1,by omega,by simp[Aq],?_⟩
     rw[← hs,hd]; simp[B8,hb]
 · have e:B8 q l 0 s0=(-1,s):=by rw[← hs,List.drop_eq_nil_of_le (by omega)]; simp[B8]
   simp -implicitDefEqProofs[hlt]
   refine hQ2 _ _ _ (Jm ?_)
   show KE _ 0 _ Q _ _
   simp -implicitDefEqProofs
   refine hQ _ _ _ ?_
   simp -implicitDefEqProofs[e,hS.len,hsc]
theorem Aj0 {σ :Type} {S: σ→List HB} {m:Nat} (hS:Hps S m) (l:List Kd) (q:Kd→σ→Bool × σ) (fn:Nat) (cap:List AV) (hcap:Am m cap=true) (hp: ∀x ∈ l,∀s,Ab Tryz.prog fn ([Ag x]++cap) (S s) (.bool (q x s).1) (S (q x s).2)) (s0: σ):
 Ab Tryz.prog Jb [.sl .none (l.map Ao),.fn (.func fn) [] cap] (S s0) (.bool (Bw q l s0).1) (S (Bw q l s0).2):=by
 have hi:=Avo hS l q fn cap hcap hp s0
 obtain⟨e1,e2⟩:=Pj q l 0 s0
 rw[e2] at hi
 rw[← e1]
 generalize (B8 q l 0 s0).1=r at hi
 generalize (Bw q l s0).2=s1 at hi
 refine Ab.go mixed Abc (by simp[hS.len]) fun hfit Q hQ=>?_
 clear hfit
 have hsc:=fun s=>hS.sc s m (Nat.le_refl _)
 simp -implicitDefEqProofs[U9]
 refine Br hi ?_
 simp -implicitDefEqProofs
 refine hQ _ _ _ ?_
 simp -implicitDefEqProofs[hS.len,hsc]
theorem A1u {σ :Type} {S: σ→List HB} {m:Nat} (hS:Hps S m) (l:List Cn) (q:Cn→σ→Bool × σ) (fn:Nat) (cap:List AV) (hcap:Am m cap=true) (hp: ∀x ∈ l,∀s,Ab Tryz.prog fn ([Aa x]++cap) (S s) (.bool (q x s).1) (S (q x s).2)) (s0: σ):
 Ab Tryz.prog Qi [.sl .none (l.map Ai),.fn (.func fn) [] cap] (S s0) (.int .i64 (B8 q l 0 s0).1) (S (B8 q l 0 s0).2):=by
 refine Ab.go mixed Acb (by simp[hS.len]) fun hfit Q hQ=>?_
 have hln:l.length≤1073741824:=by simpa[Bn,AV.fits,A4] using hfit.1.1
 clear hfit
 have hsc:=fun s=>hS.sc s m (Nat.le_refl _)
 simp -implicitDefEqProofs[Vl]
 refine B5 (AWp.loopS S (fun n f s G=>∃k:Nat,k+n=l.length∧f 8= .int .i64 k∧B8 q (l.drop k) k s=B8 q l 0 s0) l.length s0 [] (by simp) ⟨0,by simp,rfl,by simp⟩ ?_)
 rintro n f s G ⟨k,hk,h8,hs⟩
 refine AWp.run mixed fun Q2 hQ2=>?_
 simp -implicitDefEqProofs[AC.dsts,Au,At,Bo,h8]
 by_cases hlt:k < l.length
 · have hd:=List.drop_eq_getElem_cons hlt
   simp -implicitDefEqProofs[hlt]
   refine Fq (first:=[]) (r:=.bool (q l[k] s).1) (H':=S (q l[k] s).2++G) (by simpa[Aa] using (hp l[k] (List.getElem_mem _) s).suffix (by simp[hS.len]) (by simp[Na,Am,hS.len,hcap]) (by rw[hS.len]; exact hsc s) G) ?_
   simp -implicitDefEqProofs
   refine Cl (fun hb=>?_) (fun hb=>?_)
   · have e:B8 q l 0 s0=((k:Int),(q l[k] s).2):=by rw[← hs,hd]; simp[B8,hb]
     simp -implicitDefEqProofs
     refine hQ2 _ _ _ (Sb ?_)
     show KR _ _ Q _ _
     simp -implicitDefEqProofs
     refine hQ _ _ _ ?_
     simp -implicitDefEqProofs[e,hS.len,hsc]
   · simp -implicitDefEqProofs[Ba (n:=(k:Int)+1) (by omega) (by omega)]
     refine hQ2 _ _ _ (Ia (n - 1) (q l[k] s).2 (G':=G) rfl (by omega) (by simp -implicitDefEqProofs[AC.dsts,Au,At,Aq]) ?_)
     refine⟨k+1,by omega,by simp[Aq],?_⟩
     rw[← hs,hd]; simp[B8,hb]
 · have e:B8 q l 0 s0=(-1,s):=by rw[← hs,List.drop_eq_nil_of_le (by omega)]; simp[B8]
   simp -implicitDefEqProofs[hlt]
   refine hQ2 _ _ _ (Jm ?_)
   show KE _ 0 _ Q _ _
   simp -implicitDefEqProofs
   refine hQ _ _ _ ?_
   simp -implicitDefEqProofs[e,hS.len,hsc]
theorem Abw {σ :Type} {S: σ→List HB} {m:Nat} (hS:Hps S m) (l:List Cn) (q:Cn→σ→Bool × σ) (fn:Nat) (cap:List AV) (hcap:Am m cap=true) (hp: ∀x ∈ l,∀s,Ab Tryz.prog fn ([Aa x]++cap) (S s) (.bool (q x s).1) (S (q x s).2)) (s0: σ):
 Ab Tryz.prog Fk [.sl .none (l.map Ai),.fn (.func fn) [] cap] (S s0) (.bool (Bw q l s0).1) (S (Bw q l s0).2):=by
 have hi:=A1u hS l q fn cap hcap hp s0
 obtain⟨e1,e2⟩:=Pj q l 0 s0
 rw[e2] at hi
 rw[← e1]
 generalize (B8 q l 0 s0).1=r at hi
 generalize (Bw q l s0).2=s1 at hi
 refine Ab.go mixed Abv (by simp[hS.len]) fun hfit Q hQ=>?_
 clear hfit
 have hsc:=fun s=>hS.sc s m (Nat.le_refl _)
 simp -implicitDefEqProofs[W8]
 refine Br hi ?_
 simp -implicitDefEqProofs
 refine hQ _ _ _ ?_
 simp -implicitDefEqProofs[hS.len,hsc]
theorem A1c {σ :Type} {S: σ→List HB} {m:Nat} (hS:Hps S m) (l:List Sm) (q:Sm→σ→Bool × σ) (fn:Nat) (cap:List AV) (hcap:Am m cap=true) (hp: ∀x ∈ l,∀s,Ab Tryz.prog fn ([An x]++cap) (S s) (.bool (q x s).1) (S (q x s).2)) (s0: σ):
 Ab Tryz.prog Ad1 [.sl .none (l.map B6),.fn (.func fn) [] cap] (S s0) (.int .i64 (B8 q l 0 s0).1) (S (B8 q l 0 s0).2):=by
 refine Ab.go mixed Atf (by simp[hS.len]) fun hfit Q hQ=>?_
 have hln:l.length≤1073741824:=by simpa[Bn,AV.fits,A4] using hfit.1.1
 clear hfit
 have hsc:=fun s=>hS.sc s m (Nat.le_refl _)
 simp -implicitDefEqProofs[Al2]
 refine B5 (AWp.loopS S (fun n f s G=>∃k:Nat,k+n=l.length∧f 8= .int .i64 k∧B8 q (l.drop k) k s=B8 q l 0 s0) l.length s0 [] (by simp) ⟨0,by simp,rfl,by simp⟩ ?_)
 rintro n f s G ⟨k,hk,h8,hs⟩
 refine AWp.run mixed fun Q2 hQ2=>?_
 simp -implicitDefEqProofs[AC.dsts,Au,At,Bo,h8]
 by_cases hlt:k < l.length
 · have hd:=List.drop_eq_getElem_cons hlt
   simp -implicitDefEqProofs[hlt]
   refine Fq (first:=[]) (r:=.bool (q l[k] s).1) (H':=S (q l[k] s).2++G) (by simpa[An] using (hp l[k] (List.getElem_mem _) s).suffix (by simp[hS.len]) (by simp[Na,Am,hS.len,hcap]) (by rw[hS.len]; exact hsc s) G) ?_
   simp -implicitDefEqProofs
   refine Cl (fun hb=>?_) (fun hb=>?_)
   · have e:B8 q l 0 s0=((k:Int),(q l[k] s).2):=by rw[← hs,hd]; simp[B8,hb]
     simp -implicitDefEqProofs
     refine hQ2 _ _ _ (Sb ?_)
     show KR _ _ Q _ _
     simp -implicitDefEqProofs
     refine hQ _ _ _ ?_
     simp -implicitDefEqProofs[e,hS.len,hsc]
   · simp -implicitDefEqProofs[Ba (n:=(k:Int)+1) (by omega) (by omega)]
     refine hQ2 _ _ _ (Ia (n - 1) (q l[k] s).2 (G':=G) rfl (by omega) (by simp -implicitDefEqProofs[AC.dsts,Au,At,Aq]) ?_)
     refine⟨k+1,by omega,by simp[Aq],?_⟩
     rw[← hs,hd]; simp[B8,hb]
 · have e:B8 q l 0 s0=(-1,s):=by rw[← hs,List.drop_eq_nil_of_le (by omega)]; simp[B8]
   simp -implicitDefEqProofs[hlt]
   refine hQ2 _ _ _ (Jm ?_)
   show KE _ 0 _ Q _ _
   simp -implicitDefEqProofs
   refine hQ _ _ _ ?_
   simp -implicitDefEqProofs[e,hS.len,hsc]
theorem Axc {σ :Type} {S: σ→List HB} {m:Nat} (hS:Hps S m) (l:List Sm) (q:Sm→σ→Bool × σ) (fn:Nat) (cap:List AV) (hcap:Am m cap=true) (hp: ∀x ∈ l,∀s,Ab Tryz.prog fn ([An x]++cap) (S s) (.bool (q x s).1) (S (q x s).2)) (s0: σ):
 Ab Tryz.prog Yy [.sl .none (l.map B6),.fn (.func fn) [] cap] (S s0) (.bool (Bw q l s0).1) (S (Bw q l s0).2):=by
 have hi:=A1c hS l q fn cap hcap hp s0
 obtain⟨e1,e2⟩:=Pj q l 0 s0
 rw[e2] at hi
 rw[← e1]
 generalize (B8 q l 0 s0).1=r at hi
 generalize (Bw q l s0).2=s1 at hi
 refine Ab.go mixed Ar7 (by simp[hS.len]) fun hfit Q hQ=>?_
 clear hfit
 have hsc:=fun s=>hS.sc s m (Nat.le_refl _)
 simp -implicitDefEqProofs[Afh]
 refine Br hi ?_
 simp -implicitDefEqProofs
 refine hQ _ _ _ ?_
 simp -implicitDefEqProofs[hS.len,hsc]
theorem Aq5 {σ :Type} {S: σ→List HB} {m:Nat} (hS:Hps S m) (l:List Te) (q:Te→σ→Bool × σ) (fn:Nat) (cap:List AV) (hcap:Am m cap=true) (hp: ∀x ∈ l,∀s,Ab Tryz.prog fn ([Ae x]++cap) (S s) (.bool (q x s).1) (S (q x s).2)) (s0: σ):
 Ab Tryz.prog Yz [.sl .none (l.map Bm),.fn (.func fn) [] cap] (S s0) (.int .i64 (B8 q l 0 s0).1) (S (B8 q l 0 s0).2):=by
 refine Ab.go mixed Azz (by simp[hS.len]) fun hfit Q hQ=>?_
 have hln:l.length≤1073741824:=by simpa[Bn,AV.fits,A4] using hfit.1.1
 clear hfit
 have hsc:=fun s=>hS.sc s m (Nat.le_refl _)
 simp -implicitDefEqProofs[Aj2]
 refine B5 (AWp.loopS S (fun n f s G=>∃k:Nat,k+n=l.length∧f 8= .int .i64 k∧B8 q (l.drop k) k s=B8 q l 0 s0) l.length s0 [] (by simp) ⟨0,by simp,rfl,by simp⟩ ?_)
 rintro n f s G ⟨k,hk,h8,hs⟩
 refine AWp.run mixed fun Q2 hQ2=>?_
 simp -implicitDefEqProofs[AC.dsts,Au,At,Bo,h8]
 by_cases hlt:k < l.length
 · have hd:=List.drop_eq_getElem_cons hlt
   simp -implicitDefEqProofs[hlt]
   refine Fq (first:=[]) (r:=.bool (q l[k] s).1) (H':=S (q l[k] s).2++G) (by simpa[Ae] using (hp l[k] (List.getElem_mem _) s).suffix (by simp[hS.len]) (by simp[Na,Am,hS.len,hcap]) (by rw[hS.len]; exact hsc s) G) ?_
   simp -implicitDefEqProofs
   refine Cl (fun hb=>?_) (fun hb=>?_)
   · have e:B8 q l 0 s0=((k:Int),(q l[k] s).2):=by rw[← hs,hd]; simp[B8,hb]
     simp -implicitDefEqProofs
     refine hQ2 _ _ _ (Sb ?_)
     show KR _ _ Q _ _
     simp -implicitDefEqProofs
     refine hQ _ _ _ ?_
     simp -implicitDefEqProofs[e,hS.len,hsc]
   · simp -implicitDefEqProofs[Ba (n:=(k:Int)+1) (by omega) (by omega)]
     refine hQ2 _ _ _ (Ia (n - 1) (q l[k] s).2 (G':=G) rfl (by omega) (by simp -implicitDefEqProofs[AC.dsts,Au,At,Aq]) ?_)
     refine⟨k+1,by omega,by simp[Aq],?_⟩
     rw[← hs,hd]; simp[B8,hb]
 · have e:B8 q l 0 s0=(-1,s):=by rw[← hs,List.drop_eq_nil_of_le (by omega)]; simp[B8]
   simp -implicitDefEqProofs[hlt]
   refine hQ2 _ _ _ (Jm ?_)
   show KE _ 0 _ Q _ _
   simp -implicitDefEqProofs
   refine hQ _ _ _ ?_
   simp -implicitDefEqProofs[e,hS.len,hsc]
theorem Arq {σ :Type} {S: σ→List HB} {m:Nat} (hS:Hps S m) (l:List Te) (q:Te→σ→Bool × σ) (fn:Nat) (cap:List AV) (hcap:Am m cap=true) (hp: ∀x ∈ l,∀s,Ab Tryz.prog fn ([Ae x]++cap) (S s) (.bool (q x s).1) (S (q x s).2)) (s0: σ):
 Ab Tryz.prog Aey [.sl .none (l.map Bm),.fn (.func fn) [] cap] (S s0) (.bool (Bw q l s0).1) (S (Bw q l s0).2):=by
 have hi:=Aq5 hS l q fn cap hcap hp s0
 obtain⟨e1,e2⟩:=Pj q l 0 s0
 rw[e2] at hi
 rw[← e1]
 generalize (B8 q l 0 s0).1=r at hi
 generalize (Bw q l s0).2=s1 at hi
 refine Ab.go mixed As2 (by simp[hS.len]) fun hfit Q hQ=>?_
 clear hfit
 have hsc:=fun s=>hS.sc s m (Nat.le_refl _)
 simp -implicitDefEqProofs[Aid]
 refine Br hi ?_
 simp -implicitDefEqProofs
 refine hQ _ _ _ ?_
 simp -implicitDefEqProofs[hS.len,hsc]
theorem A0x {σ :Type} {S: σ→List HB} {m:Nat} (hS:Hps S m) (l:List El) (q:El→σ→Bool × σ) (fn:Nat) (cap:List AV) (hcap:Am m cap=true) (hp: ∀x ∈ l,∀s,Ab Tryz.prog fn ([Av x]++cap) (S s) (.bool (q x s).1) (S (q x s).2)) (s0: σ):
 Ab Tryz.prog Zs [.sl .none (l.map Bx),.fn (.func fn) [] cap] (S s0) (.int .i64 (B8 q l 0 s0).1) (S (B8 q l 0 s0).2):=by
 refine Ab.go mixed A2y (by simp[hS.len]) fun hfit Q hQ=>?_
 have hln:l.length≤1073741824:=by simpa[Bn,AV.fits,A4] using hfit.1.1
 clear hfit
 have hsc:=fun s=>hS.sc s m (Nat.le_refl _)
 simp -implicitDefEqProofs[Aoh]
 refine B5 (AWp.loopS S (fun n f s G=>∃k:Nat,k+n=l.length∧f 8= .int .i64 k∧B8 q (l.drop k) k s=B8 q l 0 s0) l.length s0 [] (by simp) ⟨0,by simp,rfl,by simp⟩ ?_)
 rintro n f s G ⟨k,hk,h8,hs⟩
 refine AWp.run mixed fun Q2 hQ2=>?_
 simp -implicitDefEqProofs[AC.dsts,Au,At,Bo,h8]
 by_cases hlt:k < l.length
 · have hd:=List.drop_eq_getElem_cons hlt
   simp -implicitDefEqProofs[hlt]
   refine Fq (first:=[]) (r:=.bool (q l[k] s).1) (H':=S (q l[k] s).2++G) (by simpa[Av] using (hp l[k] (List.getElem_mem _) s).suffix (by simp[hS.len]) (by simp[Na,Am,hS.len,hcap]) (by rw[hS.len]; exact hsc s) G) ?_
   simp -implicitDefEqProofs
   refine Cl (fun hb=>?_) (fun hb=>?_)
   · have e:B8 q l 0 s0=((k:Int),(q l[k] s).2):=by rw[← hs,hd]; simp[B8,hb]
     simp -implicitDefEqProofs
     refine hQ2 _ _ _ (Sb ?_)
     show KR _ _ Q _ _
     simp -implicitDefEqProofs
     refine hQ _ _ _ ?_
     simp -implicitDefEqProofs[e,hS.len,hsc]
   · simp -implicitDefEqProofs[Ba (n:=(k:Int)+1) (by omega) (by omega)]
     refine hQ2 _ _ _ (Ia (n - 1) (q l[k] s).2 (G':=G) rfl (by omega) (by simp -implicitDefEqProofs[AC.dsts,Au,At,Aq]) ?_)
     refine⟨k+1,by omega,by simp[Aq],?_⟩
     rw[← hs,hd]; simp[B8,hb]
 · have e:B8 q l 0 s0=(-1,s):=by rw[← hs,List.drop_eq_nil_of_le (by omega)]; simp[B8]
   simp -implicitDefEqProofs[hlt]
   refine hQ2 _ _ _ (Jm ?_)
   show KE _ 0 _ Q _ _
   simp -implicitDefEqProofs
   refine hQ _ _ _ ?_
   simp -implicitDefEqProofs[e,hS.len,hsc]
theorem A04 {σ :Type} {S: σ→List HB} {m:Nat} (hS:Hps S m) (l:List El) (q:El→σ→Bool × σ) (fn:Nat) (cap:List AV) (hcap:Am m cap=true) (hp: ∀x ∈ l,∀s,Ab Tryz.prog fn ([Av x]++cap) (S s) (.bool (q x s).1) (S (q x s).2)) (s0: σ):
 Ab Tryz.prog Acn [.sl .none (l.map Bx),.fn (.func fn) [] cap] (S s0) (.bool (Bw q l s0).1) (S (Bw q l s0).2):=by
 have hi:=A0x hS l q fn cap hcap hp s0
 obtain⟨e1,e2⟩:=Pj q l 0 s0
 rw[e2] at hi
 rw[← e1]
 generalize (B8 q l 0 s0).1=r at hi
 generalize (Bw q l s0).2=s1 at hi
 refine Ab.go mixed Asz (by simp[hS.len]) fun hfit Q hQ=>?_
 clear hfit
 have hsc:=fun s=>hS.sc s m (Nat.le_refl _)
 simp -implicitDefEqProofs[Apd]
 refine Br hi ?_
 simp -implicitDefEqProofs
 refine hQ _ _ _ ?_
 simp -implicitDefEqProofs[hS.len,hsc]
end Go.Proofs.YtemdkfnenjpioaaGreatDoor
