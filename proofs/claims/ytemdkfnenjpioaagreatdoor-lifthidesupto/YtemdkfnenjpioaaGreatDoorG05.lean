/- Joined: Run Ids LC. -/
import Derived.Test.YtemdkfnenjpioaaGreatDoorG04
import Derived.Test.YtemdkfnenjpioaaGreatDoorProg
import Derived.KernelRfl
set_option linter.unusedSimpArgs false
set_option linter.unusedVariables false
set_option linter.unusedSectionVars false
set_option linter.all false
set_option maxHeartbeats 4000000
set_option maxRecDepth 10000
namespace Go.Proofs.YtemdkfnenjpioaaGreatDoor
open Go
section
variable [Cc]
def ifG (b:Bool) (x y:Prop):Prop:=if b=true then x else y
theorem Qe (x y:Prop):ifG true x y=x:=rfl
theorem I6 (x y:Prop):ifG false x y=y:=rfl
theorem Wz {b:Bool} {x y:Prop} (h:ifG b x y):(b=true∧x)∨(b=false∧y):=by
 cases b
 · exact .inr ⟨rfl,h⟩
 · exact .inl ⟨rfl,h⟩
def condK (v:AV) (x y:Prop):Prop:=match v with | .bool b=>ifG b x y | _=>False
def Lj (P:Program) (f:AV) (args:List AV) (H:List HB) (K:AV→List HB→Prop):Prop:=
 match f with
 | .fn (.func n) a b=>∃v H',K7 P n (a++args++b) H v H'∧K v H'
 | _=>False
def Yh (P:Program) (f:AV) (args:List AV) (H:List HB):Prop:=
 match f with
 | .fn (.func n) a b=>∃H',K7 P n (a++args++b) H .no H'
 | _=>False
def Oh (x:Option (AV × List HB)) (K:AV→List HB→Prop):Prop:=
 match x with
 | some (v,H)=>K v H
 | none=>False
def opC (P:Program) (op:AOp) (t:List AV) (H:List HB) (K:AV→List HB→Prop):Prop:=
 match op with
 | .call f args=>Lj P (aev t f) (args.map (aev t)) H K∨Yh P (aev t f) (args.map (aev t)) H
 | op=>Oh (Ar op (aev t) H) K
def Li (P:Program):List AO→List AV→List HB→(List AV→List HB→Prop)→Prop
 | [],t,H,K=>K t H
 | o :: r,t,H,K=>ifG (A7 t o.guard) (opC P o.op t H fun v H'=>Li P r (Ax t o.dst v) H' K) (Li P r (Ax t o.dst .undef) H K)
theorem Lh {o:Option (AV × List HB)} {K:AV→List HB→Prop} (h:Oh o K): ∃v H',o=some (v,H')∧K v H':=by
 cases o with
 | none=>exact h.elim
 | some p=>exact⟨p.1,p.2,rfl,h⟩
theorem Ale {P:Program} {f:AR} {args:List AR} {t:List AV} {H:List HB} {K:AV→List HB→Prop} (h:Lj P (aev t f) (args.map (aev t)) H K): ∃v H',Ck P (.call f args) (aev t) H v H'∧K v H':=by
 unfold Lj at h
 split at h
 · rename_i n a b hf
   obtain⟨v,H',h1,h2⟩:=h
   exact⟨v,H',⟨n,a,b,hf,h1⟩,h2⟩
 · exact h.elim
theorem A1h {P:Program} {f:AR} {args:List AR} {t:List AV} {H:List HB} (h:Yh P (aev t f) (args.map (aev t)) H): ∃H',Ck P (.call f args) (aev t) H .no H':=by
 unfold Yh at h
 split at h
 · rename_i n a b hf
   obtain⟨H',h1⟩:=h
   exact⟨H',n,a,b,hf,h1⟩
 · exact h.elim
theorem opC_spec {P:Program} {op:AOp} {t:List AV} {H:List HB} {K:AV→List HB→Prop} (h:opC P op t H K):(∃ v H',Ck P op (aev t) H v H'∧K v H')∨∃H',Ck P op (aev t) H .no H':=by
 cases op<;>simp only[opC] at h<;>first
  | exact h.imp Ale A1h
  | exact .inl (Lh h)
theorem Hu {P:Program} : ∀{l:List AO} {t:List AV} {H:List HB} {K:List AV→List HB→Prop},Li P l t H K→Du P l t H K
 | [],_,_,_,h=>h
 | o :: r,t,H,K,h=>by
   simp only[Li] at h
   simp only[Du]
   rcases Wz h with⟨hg,h⟩ | ⟨hg,h⟩
   · rcases opC_spec h with⟨v,H',h1,h2⟩ | ⟨H',h1⟩
     · exact .inl ⟨hg,v,H',h1,Hu h2⟩
     · exact .inr (.inr ⟨hg,H',h1⟩)
   · exact .inr (.inl ⟨hg,Hu h⟩)
def L8:AOp→Bool
 | .store _ _ _=>true
 | _=>false
def G5:AOp→Bool
 | .store _ _ _ | .alloc _ | .box _ | .boxT _ _ | .append _ _ _ _ | .appendS _ _ _ | .mkmap | .mapset _ _=>false
 | _=>true
def Ew (l:List AO):Nat:=(l.takeWhile fun o=>!L8 o.op).length
def Cd (V:Nat→Bool) (H0 H:List HB):Prop:=∀b cs,V b=true→H0[b]? =some (.var cs)→H[b]? =some (.var cs)
def Da (l:List AO) (nq:List Nat) (k:Nat):Bool:=match l[k]? with | some o=>G5 o.op && !nq.contains k | none=>false
def optV (x:Option AV) (K:AV→Prop):Prop:=match x with | some v=>K v | none=>False
def Bf (V:Nat→Bool) (H0:List HB) (ag:Bool) (n:Nat) (x:AV):Option AV:=
 match x with
 | .ptr b off=>if V b=true then match H0[b]? with
  | some (.var cs)=>Bc ag n (cs.drop off)
  | _=>none
  else none
 | .eptr cs=>Bc ag n cs
 | _=>none
def Oc (P:Program) (V:Nat→Bool) (H0:List HB) (f:AV) (args:List AV) (K:AV→Prop):Prop:=
 match f with
 | .fn (.func n) a b=>∃v,(∀ H,Cd V H0 H→K7 P n (a++args++b) H v H)∧K v
 | _=>False
def Em (P:Program) (V:Nat→Bool) (nq:Bool) (H0:List HB) (op:AOp) (t:List AV) (H:List HB) (K:AV→List HB→Prop):Prop:=
 match op with
 | .call f args=>ifG nq (Lj P (aev t f) (args.map (aev t)) H fun v H'=>Cd V H0 H'∧K v H') (Oc P V H0 (aev t f) (args.map (aev t)) fun v=>K v H)
 | .load ag n x=>ifG nq (Oh (Ar (.load ag n x) (aev t) H) K) (optV (Bf V H0 ag n (aev t x)) fun v=>K v H)
 | op=>Oh (Ar op (aev t) H) K
def Ds (P:Program) (V:Nat→Bool) (nq:List Nat) (H0:List HB):Nat→List AO→List AV→List HB→(List AV→List HB→Prop)→Prop
 | _,[],t,H,K=>K t H
 | k,o :: r,t,H,K=>ifG (A7 t o.guard) (Em P V (nq.contains k) H0 o.op t H fun v H'=>Ds P V nq H0 (k+1) r (Ax t o.dst v) H' K) (Ds P V nq H0 (k+1) r (Ax t o.dst .undef) H K)
theorem We {op:AOp} {ρ :AR→AV} {H H':List HB} {v:AV} (hq:G5 op=true) (hl: ∀ag n x,op≠.load ag n x) (h:Ar op ρ H=some (v,H')):H'=H∧∀H2,Ar op ρ H2=some (v,H2):=by
 cases op<;>simp only[G5,Bool.false_eq_true] at hq<;>simp only[Ar] at h ⊢
 case load=>exact absurd rfl (hl _ _ _)
 all_goals (repeat' (split at h))<;>first
  | (cases h;done)
  | (simp only[Option.some.injEq,Prod.mk.injEq] at h;obtain⟨rfl,rfl⟩:=h;exact⟨rfl,fun _=>by simp_all⟩)
  | (simp only[Option.map_eq_some_iff,Prod.mk.injEq] at h;obtain⟨z,hz,rfl,rfl⟩:=h;exact⟨rfl,fun _=>by simp_all⟩)
theorem Dj {H L:List HB} {b:Nat} {cs:List AV} (h:H[b]? =some (.var cs)):(H++L)[b]? =some (.var cs):=by
 rw[List.getElem?_append_left (List.getElem?_eq_some_iff.1 h).1]; exact h
theorem Apn {k:Nat} {e:TypeId} {tok:Tok} {els ys:List (List AV)} {H H':List HB} {v:AV} (h:C7 k e tok els ys H=some (v,H')) {b:Nat} {cs:List AV} (hb:H[b]? =some (.var cs)):H'[b]? =some (.var cs):=by
 unfold C7 at h
 split at h
 · cases tok with
   | own t=>
     simp only at h
     split at h
     · rename_i n k' e' ht
       split at h
       · simp only[Option.some.injEq,Prod.mk.injEq] at h
         obtain⟨_,rfl⟩:=h
         have:t≠b:=fun e=>by subst e;rw[hb] at ht;cases ht
         rw[List.getElem?_set_ne this]; exact hb
       · cases h
     · cases h
   | none=>cases h
   | nn=>cases h
   | lazy t=>
     cases ys with
     | nil=>simp only[Option.some.injEq,Prod.mk.injEq] at h;obtain⟨_,rfl⟩:=h;exact hb
     | cons y ys=>
       simp only at h
       split at h
       · rename_i ks ht
         split at h
         · simp only[Option.some.injEq,Prod.mk.injEq] at h
           obtain⟨_,rfl⟩:=h
           have:t≠b:=fun e=>by subst e;rw[hb] at ht;cases ht
           rw[List.getElem?_set_ne this]; exact hb
         · cases h
       · cases h
   | tight=>
     cases ys<;>simp only[Ha,Option.some.injEq,Prod.mk.injEq] at h<;>obtain⟨_,rfl⟩:=h
     · exact hb
     · exact Dj hb
   | nilT=>
     cases ys<;>simp only[Ha,Option.some.injEq,Prod.mk.injEq] at h<;>obtain⟨_,rfl⟩:=h
     · exact hb
     · exact Dj hb
 · cases h
theorem Ar3 {op:AOp} {ρ :AR→AV} {H H':List HB} {v:AV} (hq:G5 op=false) (hs:L8 op=false) (h:Ar op ρ H=some (v,H')) {b:Nat} {cs:List AV} (hb:H[b]? =some (.var cs)):H'[b]? =some (.var cs):=by
 cases op<;>simp only[G5,L8] at hq hs<;>try (first | (cases hq;done) | (cases hs;done))
 all_goals simp only[Ar] at h
 case alloc=>simp only[Option.some.injEq,Prod.mk.injEq] at h;obtain⟨_,rfl⟩:=h;exact Dj hb
 case box=>simp only[Option.some.injEq,Prod.mk.injEq] at h;obtain⟨_,rfl⟩:=h;exact Dj hb
 case boxT=>simp only[Option.some.injEq,Prod.mk.injEq] at h;obtain⟨_,rfl⟩:=h;exact Dj hb
 case append=>split at h;exact Apn h hb;cases h
 case appendS=>split at h;exact Apn h hb;cases h
 case mkmap=>simp only[Option.some.injEq,Prod.mk.injEq] at h;obtain⟨_,rfl⟩:=h;exact Dj hb
 case mapset=>
  (repeat' (split at h))<;>first
   | (cases h;done)
   | (simp only[Option.some.injEq,Prod.mk.injEq] at h
      obtain⟨_,rfl⟩:=h
      rw[List.getElem?_set_ne (fun e=>by subst e;simp_all)]
      exact hb)
theorem Am6 {L:List AO} {k:Nat} {o:AO} (h:L[k]? =some o) (hs:L8 o.op=true):Ew L≤k:=by
 unfold Ew
 induction L generalizing k with
 | nil=>simp
 | cons x xs ih=>
   cases k with
   | zero=>simp at h;subst h;simp[hs]
   | succ k=>
     simp at h
     rw[List.takeWhile_cons]
     split
     · have:=ih h;simp only[List.length_cons]; omega
     · exact Nat.zero_le _
theorem N3 {P:Program} {V:Nat→Bool} {nq:List Nat} {H0:List HB} {L:List AO} {ws:List (List Nat)} {np:Nat} {K:List AV→List HB→Prop} (hok:D8 L ws (Da L nq) np=true)
 (hst: ∀(k:Nat) (o:AO) (l:List AO) (t:List AV) (H':List HB),L[k]? =some o→L8 o.op=true→(∀ j,l[j]? =L[k+1+j]?)→Ds P V nq H0 (k+1) l t H' K→Cd V H0 H'∨np≤k): ∀(l:List AO) (k:Nat) (t:List AV) (H:List HB),(∀ j,l[j]? =L[k+j]?)→
 (Cd V H0 H∨np≤k)→Ds P V nq H0 k l t H K→Hm P (Da L nq) np (Cd V H0) k l t H K
 | [],_,_,_,_,_,h=>h
 | o :: l,k,t,H,hl,hC,h=>by
   have ho:L[k]? =some o:=by simpa using (hl 0).symm
   have hkl:k < L.length:=(List.getElem?_eq_some_iff.1 ho).1
   have hl': ∀j,l[j]? =L[k+1+j]?:=fun j=>by
    have:=hl (j+1)
    simp only[List.getElem?_cons_succ] at this
    rw[this]; congr 1;omega
   have hfl:Da L nq k=(G5 o.op && !nq.contains k):=by simp[Da,ho]
   simp only[Ds] at h
   simp only[Hm]
   rcases Wz h with⟨hg,h⟩ | ⟨hg,h⟩
   · left
     refine⟨hg,?_⟩
     by_cases hf:Da L nq k=true
     · left
       have hCH:Cd V H0 H:=by
        rcases hC with h | h
        · exact h
        · have:=(Ml hok hkl).2.2.1 hf;omega
       have hf':=hf
       rw[hfl,Bool.and_eq_true,Bool.not_eq_true'] at hf'
       refine⟨hf,hCH,?_⟩
       have fin: ∀v,(∀ H2,Cd V H0 H2→Ck P o.op (aev t) H2 v H2)→Ds P V nq H0 (k+1) l (Ax t o.dst v) H K→∃v,(∀ H2,Cd V H0 H2→Ck P o.op (aev t) H2 v H2)∧Hm P (Da L nq) (np) (Cd V H0) (k+1) l (Ax t o.dst v) H K:=
        fun v h1 h2=>⟨v,h1,N3 hok hst l (k+1) _ H hl' (.inl hCH) h2⟩
       generalize hop:o.op=op at h fin hf'
       cases op with
       | call f args=>
         simp only[Em,hf'.2,I6,Oc] at h
         split at h
         · rename_i n a b hfv
           obtain⟨v,h1,h2⟩:=h
           exact fin v (fun H2 hH2=>⟨n,a,b,hfv,h1 H2 hH2⟩) h2
         · exact h.elim
       | load ag n x=>
         simp only[Em,hf'.2,I6] at h
         have hv: ∃v,Bf V H0 ag n (aev t x)=some v∧Ds P V nq H0 (k+1) l (Ax t o.dst v) H K:=by
          cases hx:Bf V H0 ag n (aev t x) with
          | none=>rw[hx] at h;exact h.elim
          | some v=>rw[hx] at h;exact⟨v,rfl,h⟩
         obtain⟨v,hv,hd⟩:=hv
         refine fin v (fun H2 hH2=>?_) hd
         unfold Bf at hv
         split at hv
         · rename_i b off hx
           split at hv
           · rename_i hV
             split at hv
             · rename_i cs hcs
               simp only[Ck,Ar,hx,hH2 b cs hV hcs,hv,Option.map_some]
             · cases hv
           · cases hv
         · rename_i cs hx
           simp only[Ck,Ar,hx,hv,Option.map_some]
         · cases hv
       | _=>
         simp only[Em] at h
         obtain⟨v,H',h1,h2⟩:=Lh h
         obtain⟨rfl,h3⟩:=We hf'.1 (by simp) h1
         exact fin v (fun H2 _=>h3 H2) h2
     · right
       have hf0:Da L nq k=false:=by simpa using hf
       refine⟨hf0,?_⟩
       have fin: ∀v H',Ck P o.op (aev t) H v H'→(Cd V H0 H'∨np≤k)→Ds P V nq H0 (k+1) l (Ax t o.dst v) H' K→∃v H',Ck P o.op (aev t) H v H'∧(Cd V H0 H'∨np≤k)∧Hm P (Da L nq) (np) (Cd V H0) (k+1) l (Ax t o.dst v) H' K:=
        fun v H' h1 h2 h3=>⟨v,H',h1,h2,N3 hok hst l (k+1) _ H' hl' (h2.imp id (by omega)) h3⟩
       have hstore:L8 o.op=true→∀t H',Ds P V nq H0 (k+1) l t H' K→Cd V H0 H'∨np≤k:=fun h t H' hd=>hst k o l t H' ho h hl' hd
       rw[hfl,Bool.and_eq_false_iff] at hf0
       generalize hop:o.op=op at h fin hf0 hstore
       cases op with
       | call f args=>
         have hnq:nq.contains k=true:=by
          rcases hf0 with h | h
          · cases h
          · simpa using h
         simp only[Em,hnq,Qe] at h
         obtain⟨v,H',h1,h2,h3⟩:=Ale h
         exact fin v H' h1 (.inl h2) h3
       | load ag n x=>
         have hnq:nq.contains k=true:=by
          rcases hf0 with h | h
          · cases h
          · simpa using h
         simp only[Em,hnq,Qe] at h
         obtain⟨v,H',h1,h2⟩:=Lh h
         have hH:H'=H:=by
          simp only[Ar] at h1
          (repeat' (split at h1))<;>first | (cases h1;done) | (simp only[Option.map_eq_some_iff,Prod.mk.injEq] at h1;obtain⟨_,_,_,rfl⟩:=h1;rfl)
         exact fin v H' h1 (hH ▸ hC) h2
       | store n p x=>
         simp only[Em] at h
         obtain⟨v,H',h1,h2⟩:=Lh h
         exact fin v H' h1 (hstore rfl _ _ h2) h2
       | _=>
         simp only[Em] at h
         obtain⟨v,H',h1,h2⟩:=Lh h
         refine fin v H' h1 (hC.imp (fun hC'=>?_) id) h2
         first
          | exact fun b cs hV hb=>Ar3 rfl rfl h1 (hC' b cs hV hb)
          | (have hq:=(We rfl (by simp) h1).1;rw[hq]; exact hC')
   · exact .inr ⟨hg,N3 hok hst l (k+1) _ H hl' (hC.imp id (by omega)) h⟩
theorem Aqg {P:Program} {V:Nat→Bool} {nq:List Nat} {H0:List HB} {L:List AO} {ws:List (List Nat)} (hok:D8 L ws (Da L nq) (Ew L)=true) (l:List AO) (k:Nat) (t:List AV) (H:List HB) (K:List AV→List HB→Prop) (hl: ∀j,l[j]? =L[k+j]?)
 (hC:Cd V H0 H∨Ew L≤k) (h:Ds P V nq H0 k l t H K):Hm P (Da L nq) (Ew L) (Cd V H0) k l t H K:=
 N3 hok (fun _ _ _ _ _ ho h _ _=>.inr (Am6 ho h)) l k t H hl hC h
def L7 (l:List AO) (nq:List Nat):Bool:=(List.range l.length).all fun j=>decide (j≤Ew l) || (match l[j]? with | some o=>G5 o.op && !nq.contains j | none=>true)
theorem Apo {L:List AO} {nq:List Nat} (h:L7 L nq=true) {j:Nat} {o:AO} (ho:L[j]? =some o) (hj:Ew L < j):G5 o.op=true∧nq.contains j=false:=by
 unfold L7 at h
 rw[List.all_eq_true] at h
 have:=h j (List.mem_range.2 (List.getElem?_eq_some_iff.1 ho).1)
 rw[ho] at this
 simp only[Bool.or_eq_true,decide_eq_true_eq,Bool.and_eq_true,Bool.not_eq_true'] at this
 rcases this with h | h
 · omega
 · exact h
theorem P6 {P:Program} {V:Nat→Bool} {nq:List Nat} {H0:List HB} {K:List AV→List HB→Prop} : ∀(l:List AO) (k:Nat) (t:List AV) (H:List HB),(∀ j o,l[j]? =some o→G5 o.op=true∧nq.contains (k+j)=false)→Ds P V nq H0 k l t H K→∃t',K t' H
 | [],_,t,_,_,h=>⟨t,h⟩
 | o :: l,k,t,H,hq,h=>by
   have hq': ∀j o,l[j]? =some o→G5 o.op=true∧nq.contains (k+1+j)=false:=fun j o ho=>by
    have:=hq (j+1) o (by simpa using ho)
    rw[show k+1+j=k+(j+1) by omega]; exact this
   have h0:=hq 0 o (by simp)
   simp only[Nat.add_zero] at h0
   simp only[Ds] at h
   rcases Wz h with⟨_,h⟩ | ⟨_,h⟩
   · generalize o.op=op at h h0
     cases op with
     | call f args=>
       simp only[Em,h0.2,I6,Oc] at h
       split at h
       · obtain⟨v,_,h2⟩:=h
         exact P6 l (k+1) _ H hq' h2
       · exact h.elim
     | load ag n x=>
       simp only[Em,h0.2,I6] at h
       cases hx:Bf V H0 ag n (aev t x) with
       | none=>rw[hx] at h;exact h.elim
       | some v=>rw[hx] at h;exact P6 l (k+1) _ H hq' h
     | _=>
       simp only[Em] at h
       obtain⟨v,H',h1,h2⟩:=Lh h
       obtain⟨rfl,_⟩:=We h0.1 (by simp) h1
       exact P6 l (k+1) _ _ hq' h2
   · exact P6 l (k+1) _ H hq' h
theorem Aa9 {L:List AO} {k:Nat} {o:AO} (h:L[k]? =some o) (hs:L8 o.op=true):Ew L≤k:=Am6 h hs
theorem AWp.drawF {P:Program} {ops:List AO} {ws:List (List Nat)} {t:List AV} {H:List HB} {Q:AX→List AV→List HB→Prop} (hm:P.follows .mixedOrders=true) (V:Nat→Bool) (nq:List Nat) (hok:D8 ops ws (Da ops nq) ops.length=true) (ht:L7 ops nq=true)
 (h:Ds P V nq H 0 ops t H fun t' H'=>Cd V H H'∧Q .normal t' H'):AWp P (.draw ops ws) t H Q:=by
 refine AWp.mono (AWp.draw (Q:=fun x t' H'=>Cd V H H'∧Q x t' H') hm (Da ops nq) ops.length (Cd V H) hok (fun _ _ _ h=>h) ?_) fun x t' H' hx=>hx.2
 refine N3 hok (fun k o l t' H' ho hs hl hd=>.inl ?_) ops 0 t H (by simp) (.inl fun _ _ _ h=>h) h
 obtain⟨t2,h2⟩:=P6 l (k+1) t' H' (fun j o' ho'=>Apo ht (by rw[← hl j]; exact ho') (by have:=Aa9 ho hs;omega)) hd
 exact h2.1
theorem AWp.drawC {P:Program} {ops:List AO} {ws:List (List Nat)} {t:List AV} {H:List HB} {Q:AX→List AV→List HB→Prop} (hm:P.follows .mixedOrders=true) (V:Nat→Bool) (nq:List Nat) (hok:D8 ops ws (Da ops nq) (Ew ops)=true)
 (h:Ds P V nq H 0 ops t H fun t' H'=>Q .normal t' H'):AWp P (.draw ops ws) t H Q:=
 AWp.draw hm (Da ops nq) (Ew ops) (Cd V H) hok (fun _ _ _ h=>h) (Aqg hok ops 0 t H _ (by simp) (.inl fun _ _ _ h=>h) h)
def Lt:AV→Bool
 | .int k n=>decide (n < k.min∨k.max < n)
 | .agg (.int k n :: _)=>decide (n < k.min∨k.max < n)
 | .tup (.int k n :: _)=>decide (n < k.min∨k.max < n)
 | _=>false
theorem R_dead {F:Addr→Prop} {g:Gh} {w:World} {v:AV} {u:Value} (h:Lt v=true) (hr:R F g w v u):False:=by
 unfold Lt at h
 split at h
 · simp only[R,IntKind.has] at hr;simp only[decide_eq_true_eq] at h;omega
 · simp only[R,RL,IntKind.has] at hr;obtain⟨_,_,_,_,_,⟨_,hr⟩,_⟩:=hr;simp only[decide_eq_true_eq] at h;omega
 · simp only[R,RL,IntKind.has] at hr;obtain⟨_,_,_,_,_,⟨_,hr⟩,_⟩:=hr;simp only[decide_eq_true_eq] at h;omega
 · cases h
theorem AWp.dead {P:Program} {ac:AC} {t:List AV} {H:List HB} {Q:AX→List AV→List HB→Prop} (d:Nat) (h:AWp P ac t H fun _ t' _=>Lt (t'.getD d .undef)=true):AWp P ac t H Q:=by
 intro c hc F g w a hs
 refine wp_mono (h c hc F g w a hs) fun e a' w' hp=>?_
 rcases hp with⟨x,t',H',F',g',rfl,hd,hs',hx⟩ | hp
 · exfalso
   rcases Nat.lt_or_ge d t'.length with hl | hl
   · obtain⟨u,_,hr⟩:=I7 hs'.2.1 d t'[d] (by simp[hl])
     have e:t'.getD d .undef=t'[d]:=by simp[List.getD_eq_getElem?_getD,hl]
     rw[e] at hd
     exact R_dead hd hr
   · have e:t'.getD d .undef= .undef:=by simp[List.getD_eq_getElem?_getD,hl]
     rw[e] at hd;simp[Lt,AV.undef] at hd
 · exact .inr hp
def J6 (V:Nat→Bool):AV→Bool
 | .ptr b _=>!V b
 | _=>false
def Uo (l:List AO) (nq ds:List Nat):Bool:=(List.range l.length).all fun j=>decide (j < Ew l) || (match l[j]? with
 | some o=>(match o.op with
   | .store _ (.tmp d) _=>ds.contains d && o.dst.isNone
   | op=>G5 op && !nq.contains j && (match o.dst with | some d=>!ds.contains d | none=>true))
 | none=>true)
def Rv (nq ds:List Nat) (j:Nat) (o:AO):Bool:=match o.op with
    | .store _ (.tmp d) _=>ds.contains d && o.dst.isNone
    | op=>G5 op && !nq.contains j && (match o.dst with | some d=>!ds.contains d | none=>true)
theorem As0 {L:List AO} {nq ds:List Nat} (h:Uo L nq ds=true) {j:Nat} {o:AO} (ho:L[j]? =some o) (hj:Ew L≤j):Rv nq ds j o=true:=by
 unfold Uo at h
 rw[List.all_eq_true] at h
 have:=h j (List.mem_range.2 (List.getElem?_eq_some_iff.1 ho).1)
 rw[ho] at this
 simp only[Bool.or_eq_true,decide_eq_true_eq] at this
 rcases this with h | h
 · omega
 · exact h
theorem putA_neD {t:List AV} {dst:Option Nat} {v:AV} {ds:List Nat} (h:(match dst with | some d=>!ds.contains d | none=>true)=true) {d:Nat} (hd:d ∈ ds):(Ax t dst v).getD d .undef=t.getD d .undef:=by
 cases dst with
 | none=>rfl
 | some x=>
   have:x≠d:=fun e=>by subst e;simp_all
   simp only[Ax,List.getD_eq_getElem?_getD,List.getElem?_set_ne this]
theorem Agb {P:Program} {V:Nat→Bool} {nq ds:List Nat} {H0:List HB} {K:List AV→List HB→Prop} : ∀(l:List AO) (k:Nat) (t:List AV) (H:List HB),(∀ j o,l[j]? =some o→Rv nq ds (k+j) o=true)→
 Ds P V nq H0 k l t H (fun t' H'=>Cd V H0 H'∧(∀ d ∈ ds,J6 V (t'.getD d .undef)=true)∧K t' H')→Cd V H0 H∧∀d ∈ ds,J6 V (t.getD d .undef)=true
 | [],_,t,H,_,h=>⟨h.1,h.2.1⟩
 | o :: l,k,t,H,hq,h=>by
   have hq': ∀j o,l[j]? =some o→Rv nq ds (k+1+j) o=true:=fun j o ho=>by
    have:=hq (j+1) o (by simpa using ho)
    rw[show k+1+j=k+(j+1) by omega]; exact this
   have h0:=hq 0 o (by simp)
   simp only[Nat.add_zero] at h0
   have back: ∀v H',(match o.dst with | some d=>!ds.contains d | none=>true)=true→Ds P V nq H0 (k+1) l (Ax t o.dst v) H' (fun t' H'=>Cd V H0 H'∧(∀ d ∈ ds,J6 V (t'.getD d .undef)=true)∧K t' H')→Cd V H0 H'∧∀d ∈ ds,J6 V (t.getD d .undef)=true:=fun v H' hd hr=>by
    obtain⟨e1,e2⟩:=Agb l (k+1) _ H' hq' hr
    exact⟨e1,fun d hd'=>by rw[← putA_neD (v:=v) hd hd']; exact e2 d hd'⟩
   simp only[Ds] at h
   have hdst:(match o.dst with | some d=>!ds.contains d | none=>true)=true:=by
    unfold Rv at h0
    split at h0
    · simp only[Bool.and_eq_true,Option.isNone_iff_eq_none] at h0;rw[h0.2]
    · simp only[Bool.and_eq_true] at h0;exact h0.2
   rcases Wz h with⟨_,h⟩ | ⟨_,h⟩
   · unfold Rv at h0
     generalize hop:o.op=op at h h0
     cases op with
     | call f args=>
       simp only[Bool.and_eq_true,Bool.not_eq_true'] at h0
       simp only[Em,h0.1.2,I6,Oc] at h
       split at h
       · obtain⟨v,_,h2⟩:=h
         exact back v H hdst h2
       · exact h.elim
     | load ag n x=>
       simp only[Bool.and_eq_true,Bool.not_eq_true'] at h0
       simp only[Em,h0.1.2,I6] at h
       cases hx:Bf V H0 ag n (aev t x) with
       | none=>rw[hx] at h;exact h.elim
       | some v=>rw[hx] at h;exact back v H hdst h
     | store n a x=>
       simp only[Em] at h
       obtain⟨v,H',h1,h2⟩:=Lh h
       obtain⟨e1,e2⟩:=back v H' hdst h2
       refine⟨?_,e2⟩
       cases a with
       | cst v=>simp[G5] at h0
       | tmp d=>
         simp only[Bool.and_eq_true] at h0
         have hd:d ∈ ds:=by simpa using h0.1
         have hf:=e2 d hd
         simp only[Ar] at h1
         intro b cs hV hb
         have:=e1 b cs hV hb
         have e3:aev t (.tmp d)=t.getD d .undef:=rfl
         rw[e3] at h1
         cases hp:t.getD d .undef<;>rw[hp] at hf h1<;>simp only[J6,Bool.false_eq_true] at hf
         rename_i b' off
         have hne:b'≠b:=fun e=>by subst e;rw[hV] at hf;cases hf
         simp only at h1
         (repeat' (split at h1))<;>first
          | (cases h1;done)
          | (simp only[Option.some.injEq,Prod.mk.injEq] at h1;obtain⟨_,rfl⟩:=h1;rwa [List.getElem?_set_ne hne] at this)
     | _=>
       simp only[Bool.and_eq_true] at h0
       simp only[Em] at h
       obtain⟨v,H',h1,h2⟩:=Lh h
       obtain⟨rfl,_⟩:=We h0.1.1 (by simp) h1
       exact back v _ hdst h2
   · exact back .undef H hdst h
theorem AWp.drawG {P:Program} {ops:List AO} {ws:List (List Nat)} {t:List AV} {H:List HB} {Q:AX→List AV→List HB→Prop} (hm:P.follows .mixedOrders=true) (V:Nat→Bool) (nq ds:List Nat) (hok:D8 ops ws (Da ops nq) ops.length=true) (ht:Uo ops nq ds=true)
 (h:Ds P V nq H 0 ops t H fun t' H'=>Cd V H H'∧(∀ d ∈ ds,J6 V (t'.getD d .undef)=true)∧Q .normal t' H'):AWp P (.draw ops ws) t H Q:=by
 refine AWp.mono (AWp.draw (Q:=fun x t' H'=>Cd V H H'∧(∀ d ∈ ds,J6 V (t'.getD d .undef)=true)∧Q x t' H') hm (Da ops nq) ops.length (Cd V H) hok (fun _ _ _ h=>h) ?_) fun x t' H' hx=>hx.2.2
 refine N3 hok (fun k o l t' H' ho hs hl hd=>.inl ?_) ops 0 t H (by simp) (.inl fun _ _ _ h=>h) h
 exact (Agb l (k+1) t' H' (fun j o' ho'=>As0 ht (by rw[← hl j]; exact ho') (by have:=Aa9 ho hs;omega)) hd).1
def wpc (P:Program):AC→(AX→List AV→List HB→Prop)→List AV→List HB→Prop
 | .skip,Q,t,H=>Q .normal t H
 | .region ops,Q,t,H=>Li P ops t H fun t' H'=>Q .normal t' H'
 | .draw ops ws,Q,t,H=>(∃ V nq,D8 ops ws (Da ops nq) (Ew ops)=true∧Ds P V nq H 0 ops t H fun t' H'=>Q .normal t' H')∨
   (∃ V nq,D8 ops ws (Da ops nq) ops.length=true∧L7 ops nq=true∧Ds P V nq H 0 ops t H fun t' H'=>Cd V H H'∧Q .normal t' H')∨
   AWp P (.draw ops ws) t H Q
 | .seq a b,Q,t,H=>wpc P a (Lp (fun t' H'=>wpc P b Q t' H') Q) t H
 | .cond c a b,Q,t,H=>condK (aev t c) (wpc P a Q t H) (wpc P b Q t H)
 | .block id a,Q,t,H=>wpc P a (Rb id Q) t H
 | .loop a,Q,t,H=>AWp P (.loop a) t H Q
 | .exit id,Q,t,H=>Q (.exit id) t H
 | .ret,Q,t,H=>Q .ret t H
 | .bad,_,_,_=>False
theorem AWp.of {P:Program} (hm:P.follows .mixedOrders=true): ∀{ac:AC} {Q:AX→List AV→List HB→Prop} {t:List AV} {H:List HB},wpc P ac Q t H→AWp P ac t H Q
 | .skip,_,_,_,h=>AWp.skip h
 | .region _,_,_,_,h=>AWp.region (Hu h)
 | .draw _ _,_,_,_,h=>by
   rcases h with⟨V,nq,h1,h2⟩ | ⟨V,nq,h1,h2,h3⟩ | h
   · exact AWp.drawC hm V nq h1 h2
   · exact AWp.drawF hm V nq h1 h2 h3
   · exact h
 | .seq _ _,Q,_,_,h=>AWp.seq (AWp.mono (AWp.of hm h) fun x t H hx=>by
  cases x with
  | normal=>exact AWp.of hm hx
  | exit _=>exact hx
  | ret=>exact hx)
 | .cond c x y,Q,t,H,h=>by
   have key: ∃b,aev t c= .bool b∧ifG b (wpc P x Q t H) (wpc P y Q t H):=by
    simp only[wpc] at h
    cases hx:aev t c<;>rw[hx] at h<;>first | exact⟨_,rfl,h⟩ | exact h.elim
   obtain⟨b,h0,h1⟩:=key
   refine AWp.cond h0 (fun e=>?_) (fun e=>?_)
   · subst e;exact AWp.of hm h1
   · subst e;exact AWp.of hm h1
 | .block _ _,_,_,_,h=>AWp.block (AWp.of hm h)
 | .loop _,_,_,_,h=>h
 | .exit _,_,_,_,h=>AWp.exit h
 | .ret,_,_,_,h=>AWp.ret h
 | .bad,_,_,_,h=>h.elim
end
end Go.Proofs.YtemdkfnenjpioaaGreatDoor
namespace Go.Proofs.YtemdkfnenjpioaaGreatDoor
def Nw:Nat:=3
def Rt:Nat:=4
def Lq:Nat:=5
def I2:Nat:=6
def Adk:Nat:=7
def Pa:Nat:=8
def Sj:Nat:=9
def Ls:Nat:=10
def Jc:Nat:=11
def Jd:Nat:=12
def N1:Nat:=13
def Aej:Nat:=14
def Sq:Nat:=15
def Aei:Nat:=16
def Nt:Nat:=17
def Rx:Nat:=18
def Tz:Nat:=19
def Qr:Nat:=20
def Ss:Nat:=21
def Xi:Nat:=22
def T2:Nat:=23
def Acn:Nat:=24
def V3:Nat:=25
def Aar:Nat:=26
def Gv:Nat:=27
def I4:Nat:=28
def Q8:Nat:=29
def R6:Nat:=30
def Pq:Nat:=31
def Aba:Nat:=32
def Md:Nat:=33
def J9:Nat:=34
def R3:Nat:=35
def Uu:Nat:=36
def Az3:Nat:=37
def Aws:Nat:=38
def Fj:Nat:=39
def K8:Nat:=40
def Ue:Nat:=41
def Jy:Nat:=42
def Ys:Nat:=43
def H5:Nat:=44
def Yo:Nat:=45
def Fw:Nat:=46
def S3:Nat:=47
def Io:Nat:=48
def Gj:Nat:=49
def Pl:Nat:=50
def U3:Nat:=51
def D3:Nat:=52
def Fv:Nat:=53
def Nr:Nat:=54
def Mr:Nat:=55
def N7:Nat:=56
def Wt:Nat:=57
def N4:Nat:=58
def Pt:Nat:=59
def Xx:Nat:=60
def Jg:Nat:=61
def Qo:Nat:=62
def S2:Nat:=63
def Jb:Nat:=64
def Uq:Nat:=65
def M1:Nat:=66
def Jk:Nat:=67
def Zj:Nat:=68
def M2:Nat:=69
def Yy:Nat:=70
def X0:Nat:=71
def Fk:Nat:=72
def Vi:Nat:=73
def Abm:Nat:=74
def Aey:Nat:=75
def Yf:Nat:=76
def Zs:Nat:=77
def Gi:Nat:=78
def Pz:Nat:=79
def Ps:Nat:=81
def Xt:Nat:=82
def Y3:Nat:=83
def Mf:Nat:=84
def Ks:Nat:=85
def Aaw:Nat:=86
def Ly:Nat:=87
def Qb:Nat:=88
def Aa0:Nat:=89
def Lv:Nat:=90
def Ih:Nat:=91
def Acx:Nat:=92
def Z9:Nat:=93
def Ke:Nat:=94
def Ja:Nat:=95
def Vs:Nat:=96
def Fg:Nat:=97
def Hq:Nat:=98
def Oj:Nat:=99
def Mj:Nat:=100
def Pi:Nat:=101
def Ky:Nat:=102
def Pv:Nat:=103
def Xn:Nat:=104
def Vf:Nat:=105
def D6:Nat:=106
def Sl:Nat:=107
def Rw:Nat:=108
def Rk:Nat:=109
def Xh:Nat:=110
def Ok:Nat:=111
def Va:Nat:=112
def Q4:Nat:=113
def Adb:Nat:=114
def X3:Nat:=115
def Ad1:Nat:=116
def Qi:Nat:=117
def Yz:Nat:=118
def Il:Nat:=119
def Py:Nat:=120
def S5:Nat:=121
def Ada:Nat:=122
def Iq:Nat:=123
def Lx:Nat:=124
def Tk:Nat:=125
def Ni:Nat:=126
def Jh:Nat:=127
def Wf:Nat:=128
def N8:Nat:=129
def Sa:Nat:=132
def Tv:Nat:=133
def Lb:Nat:=134
def Y6:Nat:=135
def Adn:Nat:=136
def Ww:Nat:=137
def Q5:Nat:=138
def V8:Nat:=139
def U1:Nat:=140
def Ot:Nat:=141
def Ny:Nat:=142
def O3:Nat:=143
def Lm:Nat:=144
def T4:Nat:=145
def Xo:Nat:=146
def Vk:Nat:=147
def Qm:Nat:=148
def Xr:Nat:=149
def Ms:Nat:=150
def Aul:Nat:=151
def Awh:Nat:=152
def Avs:Nat:=153
def Ur:Nat:=154
def Abd:Nat:=155
def Vh:Nat:=156
def Acj:Nat:=157
def Qj:Nat:=158
def Ij:Nat:=159
def Om:Nat:=160
def Aeh:Nat:=161
def Ae5:Nat:=162
def Oi:Nat:=163
def V1:Nat:=164
def M5:Nat:=165
def W4:Nat:=166
def Mo:Nat:=167
def T9:Nat:=168
def Ob:Nat:=169
def W0:Nat:=170
def T3:Nat:=171
def Wu:Nat:=172
def Pk:Nat:=173
def Rz:Nat:=174
def L6:Nat:=175
def Qc:Nat:=176
def R1:Nat:=177
def Pu:Nat:=178
def Su:Nat:=179
def Ki:Nat:=180
def Nk:Nat:=181
def Nq:Nat:=182
def G7:Nat:=183
def X7:Nat:=184
def Mz:Nat:=185
def Ig:Nat:=186
def Ng:Nat:=187
def Ll:Nat:=188
def Wn:Nat:=189
def Wd:Nat:=192
def Ax0:Nat:=193
def N6:Nat:=194
def X1:Nat:=195
def Wy:Nat:=196
def Zk:Nat:=197
def Pr:Nat:=198
def Oa:Nat:=199
def Alw:Nat:=200
def Zx:Nat:=201
def L1:Nat:=202
def M4:Nat:=203
def V9:Nat:=204
def Mq:Nat:=205
def Ru:Nat:=206
def Sw:Nat:=207
def Ty:Nat:=208
def Rs:Nat:=209
def O7:Nat:=210
def Ae2:Nat:=211
def Lz:Nat:=212
def Q1:Nat:=213
def Lf:Nat:=214
def Tg:Nat:=215
def S4:Nat:=216
def Pp:Nat:=217
def Sf:Nat:=218
def O8:Nat:=219
def Tb:Nat:=220
def Nu:Nat:=221
def Oe:Nat:=222
def Axm:Nat:=223
def Ahl:Nat:=227
def Xy:Nat:=229
def Yj:Nat:=230
def A1b:Nat:=232
def Rr:Nat:=233
def Mh:Nat:=234
def Rq:Nat:=235
def Alr:Nat:=236
def Tl:Nat:=237
def Q7:Nat:=238
def Lu:Nat:=239
def Kb:Nat:=240
def Wi:Nat:=251
def Ye:Nat:=255
def S0:Nat:=259
def Rn:Nat:=260
def R7:Nat:=261
def S1:Nat:=262
def Mn:Nat:=263
def R9:Nat:=281
def T7:Nat:=282
def Sz:Nat:=289
def Rg:Nat:=290
def Sr:Nat:=293
def Ry:Nat:=294
def Tj:Nat:=295
def Yk:Nat:=296
def Uf:Nat:=297
theorem mixed:Tryz.prog.follows .mixedOrders=true:=by kernel_rfl
@[simp] abbrev zo (d:Nat) (e:AOp):AO:=⟨some d,e,none⟩
@[simp] abbrev zw (d:Nat) (e:AOp) (c:Nat) (b:Bool):AO:=⟨some d,e,some (c,b)⟩
@[simp] abbrev zm (d s:Nat):AO:=⟨some d,.mov (.tmp s),none⟩
@[simp] abbrev zs (k a b:Nat):AO:=⟨none,.store k (.tmp a) (.tmp b),none⟩
@[simp] abbrev zc (i:Nat) (l:List AR):AOp:=.call (.cst (.fn (.func i) [] [])) l
@[simp] abbrev zl (k s:Nat):AOp:=.load false k (.tmp s)
@[simp] abbrev zt (k s:Nat):AOp:=.load true k (.tmp s)
@[simp] abbrev zf (k s:Nat):AOp:=.faddr k (.tmp s)
@[simp] abbrev zi (n:Int):AR:=.cst (.int .i64 n)
@[simp] abbrev zb (b:Bool):AR:=.cst (.bool b)
@[simp] abbrev z1:List AV:=[.sl .nilT []]
@[simp] abbrev z6:List AV:=[(.int .i64 0),(.int .i64 0),(.str []),(.sl .nilT []),(.sl .nilT []),(.sl .nilT [])]
@[simp] abbrev z14:List AV:=[(.int .i64 0),(.int .i64 0),(.str []),(.int .i64 0),(.int .i64 0),(.str []),(.sl .nilT []),(.sl .nilT []),(.sl .nilT []),(.sl .nilT []),(.sl .nilT []),(.sl .nilT []),(.sl .nilT []),(.sl .nilT [])]
@[simp] abbrev z18:List AV:=[(.int .i64 0),(.int .i64 0),(.str []),(.int .i64 0),(.int .i64 0),(.str []),(.sl .nilT []),(.sl .nilT []),(.sl .nilT []),(.int .i64 0),(.int .i64 0),(.str []),(.sl .nilT []),(.sl .nilT []),(.sl .nilT []),(.sl .nilT []),(.sl .nilT []),(.sl .nilT [])]
@[simp] abbrev z35:List AV:=[(.sl .nilT []),(.sl .nilT []),(.bool false),(.int .i64 0),(.int .i64 0),(.str []),(.int .i64 0),(.int .i64 0),(.str []),(.sl .nilT []),(.sl .nilT []),(.sl .nilT []),(.sl .nilT []),(.sl .nilT []),(.sl .nilT []),(.sl .nilT []),(.sl .nilT []),(.int .i64 0),(.int .i64 0),(.str []),(.int .i64 0),(.int .i64 0),(.str []),(.sl .nilT []),(.sl .nilT []),(.sl .nilT []),(.int .i64 0),(.int .i64 0),(.str []),(.sl .nilT []),(.sl .nilT []),(.sl .nilT []),(.sl .nilT []),(.sl .nilT []),(.sl .nilT [])]
end Go.Proofs.YtemdkfnenjpioaaGreatDoor
namespace Go.Proofs.YtemdkfnenjpioaaGreatDoor
open Go
set_option maxRecDepth 100000
def Aoh:AC:=
(.seq (.region [zo 4 (.mov (zi 0))])
(.seq (.seq (.region [zm 6 0,zo 7 (.len (.tmp 6)),zo 8 (.mov (zi 0))])
(.block 0 (.loop (.seq (.region [zo 9 (.bin .lss (.tmp 8) (.tmp 7))])
(.seq (.cond (.tmp 9)
.skip
(.exit 0))
(.seq (.block 1 (.seq (.region [zm 10 8,zm 5 10])
(.seq (.region [zm 11 1,zm 12 0,zm 13 5,zo 14 (.iaddr 35 (.tmp 12) (.tmp 13)),zo 15 (zt 35 14),zo 16 (.call (.tmp 11) [.tmp 15])])
(.cond (.tmp 16)
(.seq (.region [zm 17 5,zm 4 17])
.ret)
.skip))))
(.region [zo 18 (.bin .add (.tmp 8) (zi 1)),zm 8 18])))))))
(.seq (.region [zo 4 (.mov (zi (-1)))])
.ret)))
theorem A2y:Ad Tryz.prog Zs Aoh 19 [(.tmp 4)]:=Ad.of (by kernel_rfl)
def Acw:AC:=
(.seq (.region [zo 1 (.box (.tmp 0)),zo 2 (.mov (zb false))])
(.seq (.region [zo 6 (zt 18 1),zo 7 (zc Il [.tmp 6,zi 20000,zi 1]),zm 5 7,zo 8 (.extract (.tmp 5) 0),zo 9 (.extract (.tmp 5) 1),zm 3 8,zm 4 9])
(.seq (.region [zm 10 4,zm 2 10])
.ret)))
theorem Anl:Ad Tryz.prog Gi Acw 11 [(.tmp 2)]:=Ad.of (by kernel_rfl)
def Aca:AC:=
(.seq (.region [zo 2 (.mov (zb false))])
(.seq (.region [zm 3 0,zo 4 (zc Fk [.tmp 3,.cst (.fn (.func Py) [] [])]),zo 5 (.un .not (.tmp 4)),zm 2 5])
.ret))
theorem Alg:Ad Tryz.prog Pz Aca 6 [(.tmp 2)]:=Ad.of (by kernel_rfl)
def Akj:AC:=
(.seq .bad
(.block 0 (.seq (.region [zo 7 (.binNil .ifc false (.tmp 5))])
(.cond (.tmp 7)
(.region [zm 2 5])
(.seq .bad
(.cond (.tmp 9)
(.seq (.region [zo 3 (.alloc [.int .i64 0]),zs 1 3 10])
(.draw [zo 11 (.build z35 []),zo 12 (zf 0 3),zo 13 (zl 1 12),zs 35 0 11,zs 1 1 13] [[],[],[1],[0,0],[2,3,0,1,2,3]]))
(.seq (.region [zm 4 5])
.bad)))))))
def Ak3:AC:=
(.seq (.region [zo 1 (.box (.tmp 0)),zo 2 (.alloc z6),zo 3 (.mov (zi 0))])
(.seq (.region [zo 4 (.mov (.cst (.sl .nilT [])))])
(.seq (.seq (.region [zo 17 (zf 13 1),zo 18 (zl 1 17),zo 19 (.len (.tmp 18)),zo 20 (.mov (zi 0))])
(.block 0 (.loop (.seq (.region [zo 21 (.bin .lss (.tmp 20) (.tmp 19))])
(.seq (.cond (.tmp 21)
.skip
(.exit 0))
(.seq (.block 1 (.seq (.region [zo 22 (.iaddr 14 (.tmp 18) (.tmp 20)),zo 23 (zt 14 22),zo 6 (.alloc z14),zs 14 6 23])
(.seq (.region [zo 25 (zt 14 6),zo 26 (zc Ps [.tmp 25]),zm 24 26,zo 27 (.extract (.tmp 24) 0),zo 28 (.extract (.tmp 24) 1),zo 7 (.alloc z6),zs 6 7 27,zm 8 28])
(.seq (.seq (.region [zm 29 8,zo 30 (.bin .neq (.tmp 29) (zi 0))])
(.cond (.tmp 30)
(.seq (.region [zo 31 (.build z6 []),zm 32 8,zs 6 2 31,zm 3 32])
.ret)
.skip))
(.region [zm 33 4,zo 34 (zt 6 7),zo 35 (.buildSl 6 z6 1 [(0,(.tmp 34))]),zo 36 (.append 6 28 (.tmp 33) (.tmp 35)),zm 4 36])))))
(.region [zo 37 (.bin .add (.tmp 20) (zi 1)),zm 20 37])))))))
(.seq (.seq (.region [zo 38 (zf 0 1),zo 39 (zl 1 38)])
(.block 2 (.seq (.region [zo 41 (.bin .eql (.tmp 39) (zi 1)),zm 40 41])
(.cond (.tmp 40)
(.seq (.region [zo 42 (zf 3 1),zo 43 (zt 6 42),zo 44 (zc Fg [.tmp 43,zi 0,zi 0]),zo 45 (.extract (.tmp 44) 0),zo 46 (.extract (.tmp 44) 1),zs 6 2 45,zm 3 46])
.ret)
(.seq (.region [zo 48 (.bin .eql (.tmp 39) (zi 2)),zm 47 48])
(.cond (.tmp 47)
(.seq (.region [zo 50 (zf 3 1),zo 51 (zt 6 50),zo 52 (zc Nr [.tmp 51]),zm 49 52,zo 53 (.extract (.tmp 49) 0),zo 54 (.extract (.tmp 49) 1),zo 9 (.alloc z6),zs 6 9 53,zm 10 54])
(.seq (.seq (.region [zm 55 10,zo 56 (.bin .neq (.tmp 55) (zi 0))])
(.cond (.tmp 56)
(.seq (.region [zo 57 (.build z6 []),zm 58 10,zs 6 2 57,zm 3 58])
.ret)
.skip))
(.seq (.region [zo 60 (zf 3 1),zo 61 (zt 6 60),zo 62 (zc Nr [.tmp 61]),zm 59 62,zo 63 (.extract (.tmp 59) 0),zo 64 (.extract (.tmp 59) 1),zo 11 (.alloc z6),zs 6 11 63,zm 12 64])
(.seq (.draw [zo 65 (zf 9 1),zo 66 (zt 1 65),zo 67 (zc N7 [.tmp 66]),zo 68 (zt 6 9),zo 69 (zt 6 11),zo 70 (zc S5 [.tmp 68,.tmp 69]),zo 71 (.buildSl 6 z6 1 [(0,(.tmp 70))]),zo 72 (.build z6 [(0,(1,(zi 9))),(3,(1,(.tmp 67))),(5,(1,(.tmp 71)))]),zo 73 (zc Ly [.tmp 72]),zo 74 (.extract (.tmp 73) 0),zo 75 (.extract (.tmp 73) 1),zs 6 2 74,zm 3 75] [[],[0],[1],[],[],[3,4,2],[5],[2,6],[7,5],[8],[8],[9,8,0,1,2,3,4,5,6,7,8,9,10],[10,11,0,1,2,3,4,5,6,7,8,9,10,11]])
.ret))))
(.seq (.region [zo 77 (.bin .eql (.tmp 39) (zi 3)),zm 76 77])
(.cond (.tmp 76)
(.seq (.region [zo 78 (zc Ada []),zs 6 2 78,zo 3 (.mov (zi 0))])
.ret)
(.seq (.region [zo 80 (.bin .eql (.tmp 39) (zi 4)),zm 79 80])
(.cond (.tmp 79)
(.seq (.draw [zo 82 (zf 10 1),zo 83 (zl 1 82),zm 84 4,zo 85 (.iaddr 6 (.tmp 84) (zi 0)),zo 86 (zt 6 85),zo 87 (zc Qb [zi 10,.tmp 83,.tmp 86]),zo 88 (zc Ly [.tmp 87]),zm 81 88,zo 89 (.extract (.tmp 81) 0),zo 90 (.extract (.tmp 81) 1),zo 13 (.alloc z6),zs 6 13 89,zm 14 90] [[],[0],[],[2],[3],[1,4],[5,5],[6],[7],[7],[],[10,8,6,0,1,2,3,4,5,6,7,8,10],[9,11,0,1,2,3,4,5,6,7,8,9,10,11]])
(.seq (.seq (.region [zm 91 14,zo 92 (.bin .neq (.tmp 91) (zi 0))])
(.cond (.tmp 92)
(.seq (.region [zo 93 (.build z6 []),zm 94 14,zs 6 2 93,zm 3 94])
.ret)
.skip))
(.seq (.region [zo 96 (zt 6 13),zo 97 (zc Fg [.tmp 96,zi 0,zi 0]),zm 95 97,zo 98 (.extract (.tmp 95) 0),zo 99 (.extract (.tmp 95) 1),zo 15 (.alloc z6),zs 6 15 98,zm 16 99])
(.seq (.region [zo 100 (zt 6 13),zo 101 (zt 6 15),zo 102 (zc S5 [.tmp 100,.tmp 101]),zo 103 (zc Ly [.tmp 102]),zo 104 (.extract (.tmp 103) 0),zo 105 (.extract (.tmp 103) 1),zs 6 2 104,zm 3 105])
.ret))))
(.seq (.region [zo 107 (.bin .eql (.tmp 39) (zi 5)),zm 106 107])
(.cond (.tmp 106)
(.seq (.region [zo 108 (zf 12 1),zo 109 (zl 1 108),zo 110 (zc Iq [.tmp 109]),zm 111 4,zo 112 (.build z6 [(0,(1,(zi 7))),(4,(1,(.tmp 110))),(5,(1,(.tmp 111)))]),zo 113 (zc Ly [.tmp 112]),zo 114 (.extract (.tmp 113) 0),zo 115 (.extract (.tmp 113) 1),zs 6 2 114,zm 3 115])
.ret)
.skip))))))))))))
(.seq (.draw [zo 116 (zf 10 1),zo 117 (zl 1 116),zm 118 4,zo 119 (.iaddr 6 (.tmp 118) (zi 0)),zo 120 (zt 6 119),zo 121 (zf 11 1),zo 122 (zl 1 121),zm 123 4,zo 124 (.iaddr 6 (.tmp 123) (zi 1)),zo 125 (zt 6 124),zo 126 (zc Qb [zi 10,.tmp 122,.tmp 125]),zo 127 (zc S5 [.tmp 120,.tmp 126]),zo 128 (zc Qb [zi 9,.tmp 117,.tmp 127]),zo 129 (zc Ly [.tmp 128]),zo 130 (.extract (.tmp 129) 0),zo 131 (.extract (.tmp 129) 1),zs 6 2 130,zm 3 131] [[],[0],[],[2],[3],[],[5],[],[7],[8],[6,9],[4,10,10],[1,11,11],[12,12],[13],[13],[14,13,0,1,2,3,4,5,6,7,8,9,10,11,12,13,14,15],[15,16,0,1,2,3,4,5,6,7,8,9,10,11,12,13,14,15,16]])
.ret)))))
theorem Arj:Ad Tryz.prog Ps Ak3 132 [(.cell 2 true 6),(.tmp 3)]:=Ad.of (by kernel_rfl)
def Aqx:AC:=
(.seq (.region [zo 2 (.box (.tmp 0)),zo 3 (.box (.tmp 1)),zo 4 (.alloc z14),zo 5 (.mov (zi 0))])
(.seq (.block 0 (.seq (.region [zo 7 (zt 14 2),zo 8 (zc Lx [.tmp 7]),zo 9 (.un .not (.tmp 8)),zm 10 9,zw 11 (zl 1 3) 10 false,zw 12 (zc Fk [.tmp 11,.cst (.fn (.func Tk) [] [])]) 10 false,zo 13 (.pick (.tmp 10) (zb true) (.tmp 12)),zm 6 13])
(.cond (.tmp 6)
(.seq (.region [zo 14 (.build z14 []),zs 14 4 14,zo 5 (.mov (zi 1))])
.ret)
(.seq (.region [zo 16 (zl 1 3),zo 17 (.len (.tmp 16)),zo 18 (.bin .gtr (.tmp 17) (zi 1000)),zm 15 18])
(.cond (.tmp 15)
(.seq (.region [zo 19 (.build z14 []),zs 14 4 19,zo 5 (.mov (zi 5))])
.ret)
.skip)))))
(.seq (.region [zo 20 (zt 14 2),zo 21 (.mkfn (.func Wf) [] [.tmp 3]),zo 22 (zc Jh [.tmp 20,zi 0,.tmp 21]),zo 23 (.extract (.tmp 22) 0),zo 24 (.extract (.tmp 22) 1),zo 25 (zc Ni [.tmp 23,.tmp 24]),zo 26 (.extract (.tmp 25) 0),zo 27 (.extract (.tmp 25) 1),zs 14 4 26,zm 5 27])
.ret)))
theorem Ayc:Ad Tryz.prog Xt Aqx 28 [(.cell 4 true 14),(.tmp 5)]:=Ad.of (by kernel_rfl)
def Aay:AC:=
(.seq (.region [zo 1 (.box (.tmp 0)),zo 2 (.alloc z14),zo 3 (.mov (zi 0))])
(.seq (.seq (.region [zo 6 (zt 14 1),zo 7 (zc Lx [.tmp 6]),zo 8 (.un .not (.tmp 7))])
(.cond (.tmp 8)
(.seq (.region [zo 9 (.build z14 []),zs 14 2 9,zo 3 (.mov (zi 1))])
.ret)
.skip))
(.seq (.region [zo 11 (zt 14 1),zo 12 (zc Sa [.tmp 11]),zm 10 12,zo 13 (.extract (.tmp 10) 0),zo 14 (.extract (.tmp 10) 1),zo 4 (.alloc z14),zs 14 4 13,zm 5 14])
(.seq (.seq (.region [zm 15 5,zo 16 (.bin .neq (.tmp 15) (zi 0))])
(.cond (.tmp 16)
(.seq (.region [zo 17 (.build z14 []),zs 14 2 17,zo 3 (.mov (zi 27))])
.ret)
.skip))
(.seq (.region [zo 18 (zt 14 4),zm 19 5,zo 20 (zc Ni [.tmp 18,.tmp 19]),zo 21 (.extract (.tmp 20) 0),zo 22 (.extract (.tmp 20) 1),zs 14 2 21,zm 3 22])
.ret)))))
theorem Ags:Ad Tryz.prog Mf Aay 23 [(.cell 2 true 14),(.tmp 3)]:=Ad.of (by kernel_rfl)
def Aa1:AC:=
(.seq (.region [zo 3 (.box (.tmp 0)),zo 6 (.mov (zi 0)),zo 7 (.mov (zb false))])
(.seq (.seq (.region [zm 13 1,zo 14 (.bin .leq (.tmp 13) (zi 0)),zm 15 14,zw 16 (.mov (.tmp 2)) 15 false,zw 17 (.bin .gtr (.tmp 16) (zi 400)) 15 false,zo 18 (.pick (.tmp 15) (zb true) (.tmp 17)),zm 19 18,zw 20 (zt 14 3) 19 false,zw 21 (zc Tv [.tmp 20]) 19 false,zw 22 (.un .not (.tmp 21)) 19 false,zo 23 (.pick (.tmp 19) (zb true) (.tmp 22))])
(.cond (.tmp 23)
(.seq (.region [zo 6 (.mov (zi 0)),zo 7 (.mov (zb false))])
.ret)
.skip))
(.seq (.region [zo 8 (.mov (zi 1))])
(.seq (.seq (.region [zo 24 (zf 0 3),zo 25 (zl 1 24),zo 26 (zc Lb [.tmp 25])])
(.cond (.tmp 26)
(.region [zm 27 8,zo 28 (zf 3 3),zo 29 (zt 6 28),zo 30 (zc Hq [.tmp 29]),zo 31 (.bin .add (.tmp 27) (.tmp 30)),zm 8 31])
.skip))
(.seq (.seq (.region [zo 32 (zf 13 3),zo 33 (zl 1 32),zo 34 (.len (.tmp 33)),zo 35 (.mov (zi 0))])
(.block 0 (.loop (.seq (.region [zo 36 (.bin .lss (.tmp 35) (.tmp 34))])
(.seq (.cond (.tmp 36)
.skip
(.exit 0))
(.seq (.block 1 (.seq (.region [zo 37 (.iaddr 14 (.tmp 33) (.tmp 35)),zo 38 (zt 14 37),zo 10 (.alloc z14),zs 14 10 38])
(.seq (.region [zo 40 (zt 14 10),zm 41 1,zm 42 8,zo 43 (.bin .sub (.tmp 41) (.tmp 42)),zm 44 2,zo 45 (.bin .add (.tmp 44) (zi 1)),zo 46 (zc Ks [.tmp 40,.tmp 43,.tmp 45]),zm 39 46,zo 47 (.extract (.tmp 39) 0),zo 48 (.extract (.tmp 39) 1),zm 11 47,zm 12 48])
(.seq (.seq (.region [zm 49 12,zo 50 (.un .not (.tmp 49))])
(.cond (.tmp 50)
(.seq (.region [zo 6 (.mov (zi 0)),zo 7 (.mov (zb false))])
.ret)
.skip))
(.region [zm 51 8,zm 52 11,zo 53 (.bin .add (.tmp 51) (.tmp 52)),zm 8 53])))))
(.region [zo 54 (.bin .add (.tmp 35) (zi 1)),zm 35 54])))))))
(.seq (.region [zm 55 8,zm 56 8,zm 57 1,zo 58 (.bin .leq (.tmp 56) (.tmp 57)),zm 6 55,zm 7 58])
.ret))))))
theorem Al6:Ad Tryz.prog Ks Aa1 59 [(.tmp 6),(.tmp 7)]:=Ad.of (by kernel_rfl)
def Ali:AC:=
(.seq (.region [zo 1 (.box (.tmp 0)),zo 2 (.mov (zb false))])
(.seq (.region [zo 3 (zt 1 1),zo 4 (zc Fv [.tmp 3]),zo 5 (.un .not (.tmp 4)),zm 2 5])
.ret))
theorem Avd:Ad Tryz.prog Aaw Ali 6 [(.tmp 2)]:=Ad.of (by kernel_rfl)
def Afa:AC:=
(.seq (.region [zo 1 (.box (.tmp 0)),zo 2 (.alloc z6),zo 3 (.mov (zi 0))])
(.seq (.seq (.region [zo 4 (zt 6 1),zo 5 (zc D3 [.tmp 4]),zo 6 (.un .not (.tmp 5))])
(.cond (.tmp 6)
(.seq (.region [zo 7 (.build z6 []),zs 6 2 7,zo 3 (.mov (zi 6))])
.ret)
.skip))
(.seq (.region [zo 8 (zt 6 1),zs 6 2 8,zo 3 (.mov (zi 0))])
.ret)))
theorem Ay7:Ad Tryz.prog Ly Afa 9 [(.cell 2 true 6),(.tmp 3)]:=Ad.of (by kernel_rfl)
def Xp:AC:=
(.seq (.region [zo 1 (.box (.tmp 0)),zo 2 (.mov (zb false))])
(.seq (.region [zo 3 (zf 0 1),zo 4 (zl 1 3),zo 5 (zc N4 [.tmp 4]),zm 6 5,zw 7 (zf 1 1) 6 true,zw 8 (zt 14 7) 6 true,zw 9 (zc K8 [.tmp 8]) 6 true,zw 10 (.bin .gtr (.tmp 9) (zi 0)) 6 true,zo 11 (.pick (.tmp 6) (.tmp 10) (zb false)),zm 2 11])
.ret))
theorem Acg:Ad Tryz.prog Aa0 Xp 12 [(.tmp 2)]:=Ad.of (by kernel_rfl)
def Akc:AC:=
(.seq (.region [zo 2 (.box (.tmp 0)),zo 3 (.box (.tmp 1)),zo 4 (.alloc z6),zo 5 (.mov (zi 0))])
(.seq (.seq (.region [zo 6 (zt 6 2),zo 7 (zc D3 [.tmp 6]),zo 8 (.un .not (.tmp 7)),zm 9 8,zw 10 (zl 1 3) 9 false,zw 11 (zc Adn [.tmp 10]) 9 false,zw 12 (.un .not (.tmp 11)) 9 false,zo 13 (.pick (.tmp 9) (zb true) (.tmp 12))])
(.cond (.tmp 13)
(.seq (.region [zo 14 (.build z6 []),zs 6 4 14,zo 5 (.mov (zi 1))])
.ret)
.skip))
(.seq (.seq (.region [zo 15 (zl 1 3),zo 16 (.len (.tmp 15)),zo 17 (.bin .gtr (.tmp 16) (zi 1000))])
(.cond (.tmp 17)
(.seq (.region [zo 18 (.build z6 []),zs 6 4 18,zo 5 (.mov (zi 5))])
.ret)
.skip))
(.seq (.region [zo 19 (zt 6 2),zo 20 (.mkfn (.func Q5) [] [.tmp 3]),zo 21 (zc Ww [.tmp 19,.tmp 20]),zo 22 (.extract (.tmp 21) 0),zo 23 (.extract (.tmp 21) 1),zs 6 4 22,zm 5 23])
.ret))))
theorem Av9:Ad Tryz.prog Lv Akc 24 [(.cell 4 true 6),(.tmp 5)]:=Ad.of (by kernel_rfl)
def Ts:AC:=
(.seq (.region [zo 1 (.box (.tmp 0)),zo 2 (.alloc z6),zo 3 (.mov (zi 0))])
(.seq (.seq (.region [zo 6 (zt 6 1),zo 7 (zc D3 [.tmp 6]),zo 8 (.un .not (.tmp 7))])
(.cond (.tmp 8)
(.seq (.region [zo 9 (.build z6 []),zs 6 2 9,zo 3 (.mov (zi 1))])
.ret)
.skip))
(.seq (.region [zo 11 (zt 6 1),zo 12 (zc O3 [.tmp 11]),zm 10 12,zo 13 (.extract (.tmp 10) 0),zo 14 (.extract (.tmp 10) 1),zo 4 (.alloc z6),zs 6 4 13,zm 5 14])
(.seq (.seq (.region [zm 15 5,zo 16 (.un .not (.tmp 15))])
(.cond (.tmp 16)
(.seq (.region [zo 17 (.build z6 []),zs 6 2 17,zo 3 (.mov (zi 27))])
.ret)
.skip))
(.seq (.region [zo 18 (zt 6 4),zo 19 (zc Lm [.tmp 18]),zs 6 2 19,zo 3 (.mov (zi 0))])
.ret)))))
theorem Yi:Ad Tryz.prog Ih Ts 20 [(.cell 2 true 6),(.tmp 3)]:=Ad.of (by kernel_rfl)
def Se:AC:=
(.seq (.region [zo 2 (.box (.tmp 0)),zo 3 (.box (.tmp 1)),zo 4 (.alloc z18),zo 5 (.mov (zi 0))])
(.seq (.block 0 (.seq (.region [zo 7 (zt 18 2),zo 8 (zc Gi [.tmp 7]),zo 9 (.un .not (.tmp 8)),zm 10 9,zw 11 (zl 1 3) 10 false,zw 12 (zc Fk [.tmp 11,.cst (.fn (.func T4) [] [])]) 10 false,zo 13 (.pick (.tmp 10) (zb true) (.tmp 12)),zm 6 13])
(.cond (.tmp 6)
(.seq (.region [zo 14 (.build z18 []),zs 18 4 14,zo 5 (.mov (zi 1))])
.ret)
(.seq (.region [zo 16 (zl 1 3),zo 17 (.len (.tmp 16)),zo 18 (.bin .gtr (.tmp 17) (zi 1000)),zm 15 18])
(.cond (.tmp 15)
(.seq (.region [zo 19 (.build z18 []),zs 18 4 19,zo 5 (.mov (zi 5))])
.ret)
.skip)))))
(.seq (.region [zo 20 (.mkfn (.func Vk) [] [.tmp 3]),zo 21 (.build [.nilf,.nilf] [(0,(1,(.tmp 20))),(1,(1,(.cst (.fn (.func Xr) [] []))))]),zo 22 (zt 18 2),zo 23 (.build [.int .i64 0,.int .i64 0] []),zo 24 (zc Ms [.tmp 21,.tmp 22,.tmp 23]),zo 25 (.extract (.tmp 24) 0),zo 26 (.extract (.tmp 24) 1),zo 27 (zc Xo [.tmp 25,.tmp 26]),zo 28 (.extract (.tmp 27) 0),zo 29 (.extract (.tmp 27) 1),zs 18 4 28,zm 5 29])
.ret)))
theorem Ul:Ad Tryz.prog Acx Se 30 [(.cell 4 true 18),(.tmp 5)]:=Ad.of (by kernel_rfl)
def An6:AC:=
(.seq (.region [zo 3 (.box (.tmp 0)),zo 4 (.box (.tmp 1)),zo 5 (.box (.tmp 2)),zo 6 (.alloc z14),zo 7 (.mov (zi 0))])
(.seq (.block 0 (.seq (.region [zo 9 (zt 14 3),zo 10 (zc Lx [.tmp 9]),zo 11 (.un .not (.tmp 10)),zm 8 11])
(.cond (.tmp 8)
(.seq (.region [zo 12 (.build z14 []),zs 14 6 12,zo 7 (.mov (zi 1))])
.ret)
(.seq (.region [zo 14 (zl 1 5),zo 15 (.bin .lss (.tmp 14) (zi 0)),zm 16 15,zw 17 (zl 1 4) 16 false,zw 18 (.bin .lss (.tmp 17) (zi (-20000))) 16 false,zo 19 (.pick (.tmp 16) (zb true) (.tmp 18)),zm 20 19,zw 21 (zl 1 4) 20 false,zw 22 (.bin .gtr (.tmp 21) (zi 20000)) 20 false,zo 23 (.pick (.tmp 20) (zb true) (.tmp 22)),zm 13 23])
(.cond (.tmp 13)
(.seq (.region [zo 24 (.build z14 []),zs 14 6 24,zo 7 (.mov (zi 2))])
.ret)
(.seq (.region [zo 26 (zl 1 4),zo 27 (.bin .lss (.tmp 26) (zi 0)),zm 28 27,zw 29 (zt 14 3) 28 true,zw 30 (zc Awh [.tmp 29]) 28 true,zw 31 (.mkfn (.func Avs) [] [.tmp 5,.tmp 4]) 28 true,zw 32 (zc Aul [.tmp 30,.tmp 31]) 28 true,zo 33 (.pick (.tmp 28) (.tmp 32) (zb false)),zm 25 33])
(.cond (.tmp 25)
(.seq (.region [zo 34 (.build z14 []),zs 14 6 34,zo 7 (.mov (zi 2))])
.ret)
.skip)))))))
(.seq (.region [zo 35 (zl 1 5),zo 36 (.min [.tmp 35,zi 20001]),zs 1 5 36])
(.seq (.region [zo 37 (zt 14 3),zo 38 (.mkfn (.func Ur) [] [.tmp 4,.tmp 5]),zo 39 (zc Jh [.tmp 37,zi 0,.tmp 38]),zo 40 (.extract (.tmp 39) 0),zo 41 (.extract (.tmp 39) 1),zo 42 (zc Ni [.tmp 40,.tmp 41]),zo 43 (.extract (.tmp 42) 0),zo 44 (.extract (.tmp 42) 1),zs 14 6 43,zm 7 44])
.ret))))
theorem A0f:Ad Tryz.prog Z9 An6 45 [(.cell 6 true 14),(.tmp 7)]:=Ad.of (by kernel_rfl)
def Apl:AC:=
(.seq (.region [zo 1 (.box (.tmp 0)),zo 2 (.mov (zb false))])
(.seq (.region [zo 3 (zt 6 1),zo 4 (zc D3 [.tmp 3]),zo 5 (.un .not (.tmp 4)),zm 2 5])
.ret))
theorem A1q:Ad Tryz.prog Ke Apl 6 [(.tmp 2)]:=Ad.of (by kernel_rfl)
def Ac7:AC:=
(.seq (.region [zo 3 (.box (.tmp 0)),zo 6 (.alloc z18),zo 7 (.mov (zi 0))])
(.seq (.seq (.region [zo 10 (zt 18 3),zo 11 (zc Gi [.tmp 10]),zo 12 (.un .not (.tmp 11))])
(.cond (.tmp 12)
(.seq (.region [zo 13 (.build z18 []),zs 18 6 13,zo 7 (.mov (zi 1))])
.ret)
.skip))
(.seq (.region [zo 15 (zt 18 3),zo 16 (zc Abd [.tmp 15]),zm 14 16,zo 17 (.extract (.tmp 14) 0),zo 18 (.extract (.tmp 14) 1),zm 8 17,zm 9 18])
(.seq (.seq (.region [zm 19 1,zo 20 (zc Vh [.tmp 19]),zo 21 (.un .not (.tmp 20)),zm 22 21,zw 23 (.mov (.tmp 2)) 22 false,zw 24 (zc Vh [.tmp 23]) 22 false,zw 25 (.un .not (.tmp 24)) 22 false,zo 26 (.pick (.tmp 22) (zb true) (.tmp 25)),zm 27 26,zw 28 (.mov (.tmp 8)) 27 false,zw 29 (.len (.tmp 28)) 27 false,zw 30 (.bin .gtr (.tmp 29) (zi 0)) 27 false,zw 31 (.mov (.tmp 30)) 27 false,zw 32 (.mov (.tmp 8)) 31 true,zw 33 (.iaddr 1 (.tmp 32) (zi 0)) 31 true,zw 34 (zl 1 33) 31 true,zw 35 (.mov (.tmp 1)) 31 true,zw 36 (.bin .add (.tmp 34) (.tmp 35)) 31 true,zw 37 (.bin .lss (.tmp 36) (zi 0)) 31 true,zw 38 (.pick (.tmp 31) (.tmp 37) (zb false)) 27 false,zo 39 (.pick (.tmp 27) (zb true) (.tmp 38)),zm 40 39,zw 41 (.mov (.tmp 9)) 40 false,zw 42 (.len (.tmp 41)) 40 false,zw 43 (.bin .gtr (.tmp 42) (zi 0)) 40 false,zw 44 (.mov (.tmp 43)) 40 false,zw 45 (.mov (.tmp 9)) 44 true,zw 46 (.iaddr 1 (.tmp 45) (zi 0)) 44 true,zw 47 (zl 1 46) 44 true,zw 48 (.mov (.tmp 2)) 44 true,zw 49 (.bin .add (.tmp 47) (.tmp 48)) 44 true,zw 50 (.bin .lss (.tmp 49) (zi 0)) 44 true,zw 51 (.pick (.tmp 44) (.tmp 50) (zb false)) 40 false,zo 52 (.pick (.tmp 40) (zb true) (.tmp 51))])
(.cond (.tmp 52)
(.seq (.region [zo 53 (.build z18 []),zs 18 6 53,zo 7 (.mov (zi 2))])
.ret)
.skip))
(.seq (.draw [zm 54 1,zm 55 2,zo 56 (zc Acj [.tmp 54,.tmp 55]),zo 57 (zt 18 3),zo 58 (.build [.int .i64 0,.int .i64 0] []),zo 59 (zc Ms [.tmp 56,.tmp 57,.tmp 58]),zo 60 (.extract (.tmp 59) 0),zo 61 (.extract (.tmp 59) 1),zo 62 (zc Xo [.tmp 60,.tmp 61]),zo 63 (.extract (.tmp 62) 0),zo 64 (.extract (.tmp 62) 1),zs 18 6 63,zm 7 64] [[],[],[0,1],[],[],[2,3,4,2],[5],[5],[6,7,5],[8],[8],[9,8,0,1,2,3,4,5,6,7,8,9,10],[10,11,0,1,2,3,4,5,6,7,8,9,10,11]])
.ret)))))
theorem Apr:Ad Tryz.prog Ja Ac7 65 [(.cell 6 true 18),(.tmp 7)]:=Ad.of (by kernel_rfl)
def Ak6:AC:=
(.seq (.region [zo 1 (.box (.tmp 0)),zo 2 (.mov (.cst .nilf))])
(.seq (.region [zo 3 (.mkfn (.func Qj) [] [.tmp 1]),zm 2 3])
.ret))
theorem Au8:Ad Tryz.prog Vs Ak6 4 [(.tmp 2)]:=Ad.of (by kernel_rfl)
def Ns:AC:=
(.seq (.region [zo 3 (.box (.tmp 0)),zo 4 (.box (.tmp 1)),zo 5 (.box (.tmp 2)),zo 6 (.alloc z6),zo 7 (.mov (zi 0))])
(.seq (.seq (.region [zo 9 (zt 6 3),zo 10 (zc D3 [.tmp 9]),zo 11 (.un .not (.tmp 10))])
(.cond (.tmp 11)
(.seq (.region [zo 12 (.build z6 []),zs 6 6 12,zo 7 (.mov (zi 1))])
.ret)
.skip))
(.seq (.seq (.region [zo 13 (zl 1 5),zo 14 (.bin .lss (.tmp 13) (zi 0)),zm 15 14,zw 16 (zl 1 4) 15 false,zw 17 (.bin .lss (.tmp 16) (zi (-20000))) 15 false,zo 18 (.pick (.tmp 15) (zb true) (.tmp 17)),zm 19 18,zw 20 (zl 1 4) 19 false,zw 21 (.bin .gtr (.tmp 20) (zi 20000)) 19 false,zo 22 (.pick (.tmp 19) (zb true) (.tmp 21))])
(.cond (.tmp 22)
(.seq (.region [zo 23 (.build z6 []),zs 6 6 23,zo 7 (.mov (zi 2))])
.ret)
.skip))
(.seq (.region [zo 8 (.alloc [.bool false]),⟨none,.store 1 (.tmp 8) (zb false),none⟩])
(.seq (.region [zo 24 (zt 6 3),zo 25 (.mkfn (.func Om) [] [.tmp 5,.tmp 4,.tmp 8]),zo 26 (zc Ij [.tmp 24,zi 0,.tmp 25])])
(.seq (.seq (.region [zo 27 (zl 1 8)])
(.cond (.tmp 27)
(.seq (.region [zo 28 (.build z6 []),zs 6 6 28,zo 7 (.mov (zi 2))])
.ret)
.skip))
(.seq (.draw [zo 29 (zt 6 3),zo 30 (zl 1 4),zo 31 (zl 1 5),zo 32 (zc Ot [.tmp 30,.tmp 31]),zo 33 (zc Ww [.tmp 29,.tmp 32]),zo 34 (.extract (.tmp 33) 0),zo 35 (.extract (.tmp 33) 1),zs 6 6 34,zm 7 35] [[],[],[],[1,2],[0,3,3],[4],[4],[5,4,0,1,2,3,4,5,6],[6,7,0,1,2,3,4,5,6,7]])
.ret)))))))
theorem Od:Ad Tryz.prog Fg Ns 36 [(.cell 6 true 6),(.tmp 7)]:=Ad.of (by kernel_rfl)
def Zy:AC:=
(.seq (.region [zo 1 (.box (.tmp 0)),zo 2 (.mov (zi 0))])
(.seq (.region [zo 3 (.mov (zi 1))])
(.seq (.seq (.region [zo 6 (zf 5 1),zo 7 (zl 1 6),zo 8 (.len (.tmp 7)),zo 9 (.mov (zi 0))])
(.block 0 (.loop (.seq (.region [zo 10 (.bin .lss (.tmp 9) (.tmp 8))])
(.seq (.cond (.tmp 10)
.skip
(.exit 0))
(.seq (.block 1 (.seq (.region [zo 11 (.iaddr 6 (.tmp 7) (.tmp 9)),zo 12 (zt 6 11),zo 5 (.alloc z6),zs 6 5 12])
(.region [zm 13 3,zo 14 (zt 6 5),zo 15 (zc Hq [.tmp 14]),zo 16 (.bin .add (.tmp 13) (.tmp 15)),zm 3 16])))
(.region [zo 17 (.bin .add (.tmp 9) (zi 1)),zm 9 17])))))))
(.seq (.region [zm 18 3,zm 2 18])
.ret))))
theorem Anv:Ad Tryz.prog Hq Zy 19 [(.tmp 2)]:=Ad.of (by kernel_rfl)
def Anr:AC:=
(.seq (.region [zo 1 (.box (.tmp 0)),zo 2 (.mov (zi 0))])
(.seq (.region [zo 3 (.mov (zi 0))])
(.seq (.seq (.region [zo 6 (zf 5 1),zo 7 (zl 1 6),zo 8 (.len (.tmp 7)),zo 9 (.mov (zi 0))])
(.block 0 (.loop (.seq (.region [zo 10 (.bin .lss (.tmp 9) (.tmp 8))])
(.seq (.cond (.tmp 10)
.skip
(.exit 0))
(.seq (.block 1 (.seq (.region [zo 11 (.iaddr 6 (.tmp 7) (.tmp 9)),zo 12 (zt 6 11),zo 5 (.alloc z6),zs 6 5 12])
(.region [zm 13 3,zo 14 (zt 6 5),zo 15 (zc Oj [.tmp 14]),zo 16 (.max [.tmp 13,.tmp 15]),zm 3 16])))
(.region [zo 17 (.bin .add (.tmp 9) (zi 1)),zm 9 17])))))))
(.seq (.region [zm 18 3,zo 19 (.bin .add (.tmp 18) (zi 1)),zm 2 19])
.ret))))
theorem Ass:Ad Tryz.prog Oj Anr 20 [(.tmp 2)]:=Ad.of (by kernel_rfl)
def Am8:AC:=
(.seq (.region [zo 1 (.box (.tmp 0)),zo 2 (.mov (zb false))])
(.seq (.seq (.draw [zo 4 (zf 5 1),zo 5 (zl 1 4),zo 6 (.len (.tmp 5)),zo 7 (zt 6 1),zo 8 (zc Aeh [.tmp 7]),zo 9 (.bin .neq (.tmp 6) (.tmp 8))] [[],[0],[1],[],[3],[2,4]])
(.cond (.tmp 9)
(.seq (.region [zo 2 (.mov (zb false))])
.ret)
.skip))
(.seq (.seq (.region [zo 10 (zf 0 1),zo 11 (zl 1 10)])
(.block 0 (.seq (.seq (.region [zo 16 (.bin .eql (.tmp 11) (zi 1)),zm 15 16])
(.cond (.tmp 15)
.skip
(.region [zo 17 (.bin .eql (.tmp 11) (zi 3)),zm 15 17])))
(.cond (.tmp 15)
(.seq (.region [zo 18 (zf 1 1),zo 19 (zl 1 18),zo 20 (.bin .lss (.tmp 19) (zi 0)),zm 21 20,zw 22 (zf 1 1) 21 false,zw 23 (zl 1 22) 21 false,zw 24 (.bin .gtr (.tmp 23) (zi 20000)) 21 false,zo 25 (.pick (.tmp 21) (zb true) (.tmp 24))])
(.cond (.tmp 25)
(.seq (.region [zo 2 (.mov (zb false))])
.ret)
.skip))
(.seq (.region [zo 12 (zf 1 1),zo 13 (zl 1 12),zo 14 (.bin .neq (.tmp 13) (zi 0))])
(.cond (.tmp 14)
(.seq (.region [zo 2 (.mov (zb false))])
.ret)
.skip))))))
(.seq (.seq (.region [zo 26 (zf 0 1),zo 27 (zl 1 26),zo 28 (.bin .eql (.tmp 27) (zi 2)),zm 29 28,zw 30 (zf 2 1) 29 true,zw 31 (zl 1 30) 29 true,zw 32 (zc Ae5 [.tmp 31]) 29 true,zw 33 (.un .not (.tmp 32)) 29 true,zo 34 (.pick (.tmp 29) (.tmp 33) (zb false)),zm 35 34,zw 36 (zf 0 1) 35 false,zw 37 (zl 1 36) 35 false,zw 38 (.bin .neq (.tmp 37) (zi 2)) 35 false,zw 39 (.mov (.tmp 38)) 35 false,zw 40 (zf 2 1) 39 true,zw 41 (zl 1 40) 39 true,zw 42 (.bin .neq (.tmp 41) (.cst (.str []))) 39 true,zw 43 (.pick (.tmp 39) (.tmp 42) (zb false)) 35 false,zo 44 (.pick (.tmp 35) (zb true) (.tmp 43))])
(.cond (.tmp 44)
(.seq (.region [zo 2 (.mov (zb false))])
.ret)
.skip))
(.seq (.seq (.region [zo 45 (zt 6 1),zo 46 (zc Oi [.tmp 45]),zm 47 46,zw 48 (zf 0 1) 47 false,zw 49 (zl 1 48) 47 false,zw 50 (.bin .eql (.tmp 49) (zi 2)) 47 false,zo 51 (.pick (.tmp 47) (zb true) (.tmp 50)),zm 3 51])
(.seq (.region [zm 52 3,zm 53 52,zw 54 (zf 3 1) 53 true,zw 55 (zt 1 54) 53 true,zw 56 (zc Fv [.tmp 55]) 53 true,zw 57 (.un .not (.tmp 56)) 53 true,zo 58 (.pick (.tmp 53) (.tmp 57) (zb false)),zm 59 58,zw 60 (.mov (.tmp 3)) 59 false,zw 61 (.un .not (.tmp 60)) 59 false,zw 62 (.mov (.tmp 61)) 59 false,zw 63 (zf 3 1) 62 true,zw 64 (zf 0 63) 62 true,zw 65 (zl 1 64) 62 true,zw 66 (.len (.tmp 65)) 62 true,zw 67 (.bin .gtr (.tmp 66) (zi 0)) 62 true,zw 68 (.pick (.tmp 62) (.tmp 67) (zb false)) 59 false,zo 69 (.pick (.tmp 59) (zb true) (.tmp 68))])
(.cond (.tmp 69)
(.seq (.region [zo 2 (.mov (zb false))])
.ret)
.skip)))
(.seq (.seq (.region [zo 70 (zf 4 1),zo 71 (zl 1 70),zo 72 (.len (.tmp 71)),zo 73 (.bin .gtr (.tmp 72) (zi 0)),zm 74 73,zw 75 (zt 6 1) 74 true,zw 76 (zc V1 [.tmp 75]) 74 true,zw 77 (.un .not (.tmp 76)) 74 true,zo 78 (.pick (.tmp 74) (.tmp 77) (zb false)),zm 79 78,zw 80 (zf 4 1) 79 false,zw 81 (zl 1 80) 79 false,zw 82 (.len (.tmp 81)) 79 false,zw 83 (.bin .gtr (.tmp 82) (zi 1000)) 79 false,zo 84 (.pick (.tmp 79) (zb true) (.tmp 83)),zm 85 84,zw 86 (zf 4 1) 85 false,zw 87 (zl 1 86) 85 false,zw 88 (zc M5 [.tmp 87]) 85 false,zw 89 (.un .not (.tmp 88)) 85 false,zo 90 (.pick (.tmp 85) (zb true) (.tmp 89)),zm 91 90,zw 92 (zf 4 1) 91 false,zw 93 (zl 1 92) 91 false,zw 94 (zc Jk [.tmp 93,.cst (.fn (.func W4) [] [])]) 91 false,zo 95 (.pick (.tmp 91) (zb true) (.tmp 94))])
(.cond (.tmp 95)
(.seq (.region [zo 2 (.mov (zb false))])
.ret)
.skip))
(.seq (.region [zo 96 (zf 5 1),zo 97 (zl 1 96),zo 98 (zc Fk [.tmp 97,.cst (.fn (.func T9) [] [])]),zo 99 (.un .not (.tmp 98)),zm 2 99])
.ret)))))))
theorem Azc:Ad Tryz.prog Mj Am8 100 [(.tmp 2)]:=Ad.of (by kernel_rfl)
end Go.Proofs.YtemdkfnenjpioaaGreatDoor
