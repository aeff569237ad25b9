/- Joined: Draw Draw2 Wp Call. -/
import Derived.Test.YtemdkfnenjpioaaGreatDoorG03
import Derived.LoopN
set_option linter.unusedSimpArgs false
set_option linter.unusedVariables false
set_option linter.unusedSectionVars false
set_option linter.all false
set_option maxHeartbeats 4000000
set_option maxRecDepth 10000
namespace Go.Proofs.YtemdkfnenjpioaaGreatDoor
open Go
def AR.ts:AR→List Nat
 | .tmp t=>[t]
 | .cst _=>[]
def ARs.ts (xs:List AR):List Nat:=xs.flatMap AR.ts
def oTs (x:Option AR):List Nat:=match x with | some y=>y.ts | none=>[]
def AOp.ts:AOp→List Nat
 | .emptySl | .makeSl _ _ _ | .mkmap=>[]
 | .mov x | .box x | .boxT _ x | .convSB x | .load _ _ x | .nilck x | .binNil _ _ x | .un _ x | .convInt _ x | .faddr _ x | .extract x _ | .len x | .slen x | .convS x | .mkif _ x=>x.ts
 | .pick c a b=>c.ts++a.ts++b.ts
 | .alloc _=>[]
 | .build _ ps=>ps.flatMap fun p=>p.2.2.ts
 | .buildSl _ _ _ ps=>ps.flatMap fun p=>p.2.ts
 | .store _ a x | .bin _ a x | .binB _ a x | .iaddr _ a x | .sidx a x | .append _ _ a x | .appendS _ a x | .mapset a x=>a.ts++x.ts
 | .mkfn _ a b=>ARs.ts a++ARs.ts b
 | .slice _ x lo hi mx=>x.ts++oTs lo++oTs hi++oTs mx
 | .sslice x lo hi=>x.ts++oTs lo++oTs hi
 | .min xs | .max xs=>ARs.ts xs
 | .call f args=>f.ts++ARs.ts args
def AO.looks (o:AO):List Nat:=o.op.ts++(match o.guard with | some (d,_)=>[d] | none=>[])
theorem Ge {t t':List AV} {x:AR} (h: ∀i ∈ x.ts,t.getD i .undef=t'.getD i .undef):aev t x=aev t' x:=by
 cases x with
 | tmp i=>exact h i (by simp[AR.ts])
 | cst v=>rfl
theorem Re {t t':List AV} {xs:List AR} (h: ∀i ∈ ARs.ts xs,t.getD i .undef=t'.getD i .undef):xs.map (aev t)=xs.map (aev t'):=
 List.map_congr_left fun x hx=>Ge fun i hi=>h i (by simp only[ARs.ts,List.mem_flatMap]; exact⟨x,hx,hi⟩)
theorem Th {t t':List AV} {x:Option AR} (h: ∀i ∈ oTs x,t.getD i .undef=t'.getD i .undef):x.map (aev t)=x.map (aev t'):=by
 cases x with
 | none=>rfl
 | some y=>simp only[Option.map_some]; rw[Ge (t':=t') h]
variable [Cc]
theorem Ak2 {P:Program} {op:AOp} {t t':List AV} (h: ∀i ∈ op.ts,t.getD i .undef=t'.getD i .undef) {H:List HB} {v:AV} {H':List HB} (hr:Ck P op (aev t) H v H'):Ck P op (aev t') H v H':=by
 cases op<;>simp only[AOp.ts,List.mem_append] at h<;>simp only[Ck,Ar] at hr ⊢
 case build z ps=>
  have:(ps.map fun p=>(p.1,p.2.1,aev t p.2.2))=ps.map fun p=>(p.1,p.2.1,aev t' p.2.2):=List.map_congr_left fun p hp=>by
   rw[Ge (t':=t') fun i hi=>h i (List.mem_flatMap.2 ⟨p,hp,hi⟩)]
  rw[← this]; exact hr
 case buildSl k z n ps=>
  have:(ps.map fun p=>(p.1,aev t p.2))=ps.map fun p=>(p.1,aev t' p.2):=List.map_congr_left fun p hp=>by
   rw[Ge (t':=t') fun i hi=>h i (List.mem_flatMap.2 ⟨p,hp,hi⟩)]
  rw[← this]; exact hr
 case pick c a b=>
  rw[← Ge (t:=t) fun i hi=>h i (.inl (.inl hi)),← Ge (t:=t) (x:=a) fun i hi=>h i (.inl (.inr hi)),← Ge (t:=t) (x:=b) fun i hi=>h i (.inr hi)]; exact hr
 case mkfn f a b=>
  rw[← Re (t:=t) fun i hi=>h i (.inl hi),← Re (t:=t) (xs:=b) fun i hi=>h i (.inr hi)]; exact hr
 case slice k x lo hi mx=>
  rw[← Ge (t:=t) fun i hi=>h i (.inl (.inl (.inl hi))),← Th (t:=t) (x:=lo) fun i hi=>h i (.inl (.inl (.inr hi))),← Th (t:=t) (x:=hi) fun i hi=>h i (.inl (.inr hi)),← Th (t:=t) (x:=mx) fun i hi=>h i (.inr hi)]; exact hr
 case sslice x lo hi=>
  rw[← Ge (t:=t) fun i hi=>h i (.inl (.inl hi)),← Th (t:=t) (x:=lo) fun i hi=>h i (.inl (.inr hi)),← Th (t:=t) (x:=hi) fun i hi=>h i (.inr hi)]; exact hr
 case call f args=>
  rw[← Ge (t:=t) fun i hi=>h i (.inl hi),← Re (t:=t) fun i hi=>h i (.inr hi)]; exact hr
 case min xs=>rw[← Re (t:=t) h]; exact hr
 case max xs=>rw[← Re (t:=t) h]; exact hr
 case alloc z=>exact hr
 case emptySl=>exact hr
 case makeSl=>exact hr
 case mkmap=>exact hr
 all_goals first
  | (rw[← Ge (t:=t) h]; exact hr)
  | (rename_i x y;rw[← Ge (t:=t) fun i hi=>h i (.inl hi),← Ge (t:=t) (x:=y) fun i hi=>h i (.inr hi)]; exact hr)
  | (rename_i x y _;rw[← Ge (t:=t) fun i hi=>h i (.inl hi),← Ge (t:=t) (x:=y) fun i hi=>h i (.inr hi)]; exact hr)
theorem putA_ne {t:List AV} {dst:Option Nat} {v:AV} {i:Nat} (h: ∀d,dst=some d→i≠d):(Ax t dst v).getD i .undef=t.getD i .undef:=by
 cases dst with
 | none=>rfl
 | some d=>
   have:=h d rfl
   simp[Ax,List.getElem?_set_ne (Ne.symm this)]
theorem putA_ne' {t:List AV} {dst:Option Nat} {v:AV} {i:Nat} (h: ∀d,dst=some d→i≠d):(Ax t dst v)[i]? =t[i]?:=by
 cases dst with
 | none=>rfl
 | some d=>
   have:=h d rfl
   simp[Ax,List.getElem?_set_ne (Ne.symm this)]
theorem Arw {t:List AV} {d e:Option Nat} {v u:AV} (h: ∀x,d=some x→e≠some x):Ax (Ax t d v) e u=Ax (Ax t e u) d v:=by
 cases d with
 | none=>rfl
 | some x=>
   cases e with
   | none=>rfl
   | some y=>
     have:x≠y:=fun e=>h x rfl (e ▸ rfl)
     simp only[Ax]
     exact List.set_comm _ _ this
def Tr (x y:AO):Bool:=
 (match x.dst with | some d=>!(y.looks).contains d && y.dst != some d | none=>true) &&
 (match y.dst with | some d=>!(x.looks).contains d | none=>true)
theorem A23 {x y:AO} (h:Tr x y=true):(∀ d,x.dst=some d→d ∉ y.looks)∧(∀ d,x.dst=some d→y.dst≠some d)∧(∀ d,y.dst=some d→d ∉ x.looks):=by
 refine⟨fun d hd=>?_,fun d hd=>?_,fun d hd=>?_⟩<;>simp[Tr,hd] at h
 · exact h.1.1
 · exact h.1.2
 · exact h.2
theorem Ma {P:Program} {o:AO} {t:List AV} {dst:Option Nat} {v:AV} (h: ∀d,dst=some d→d ∉ o.looks) {H:List HB} {u:AV} {H':List HB} :Ck P o.op (aev (Ax t dst v)) H u H'↔Ck P o.op (aev t) H u H':=by
 have key: ∀i ∈ o.op.ts,(Ax t dst v).getD i .undef=t.getD i .undef:=fun i hi=>putA_ne fun d hd e=>h d hd (by subst e;simp only[AO.looks,List.mem_append]; exact .inl hi)
 exact⟨Ak2 key,Ak2 fun i hi=>(key i hi).symm⟩
theorem Afy {o:AO} {t:List AV} {dst:Option Nat} {v:AV} (h: ∀d,dst=some d→d ∉ o.looks):A7 (Ax t dst v) o.guard=A7 t o.guard:=by
 cases hg:o.guard with
 | none=>rfl
 | some p=>
   obtain⟨d,want⟩:=p
   simp only[A7]
   rw[putA_ne' fun e he x=>h e he (by subst x;simp[AO.looks,hg])]
section
variable (P:Program) (aos:List AO) (waits:List (List Nat)) (fl:Nat→Bool) (np:Nat) (C:List HB→Prop)
def Ed (listed:Array Bool):List Nat:=(List.range aos.length).filter fun i=>!listed.getD i true && (waits.getD i []).all fun j=>listed.getD j false
def aOp (i:Nat) (next:List AV→List HB→Prop) (t:List AV) (H:List HB):Prop:=
 match aos[i]? with
 | none=>next t H
 | some o=>if A7 t o.guard=true then (if fl i=true then C H∧∃v,(∀ H2,C H2→Ck P o.op (aev t) H2 v H2)∧next (Ax t o.dst v) H else ∃v H',Ck P o.op (aev t) H v H'∧(C H'∨np≤i)∧next (Ax t o.dst v) H')
  else next (Ax t o.dst .undef) H
def Ic (K:List AV→List HB→Prop):Nat→Array Bool→List AV→List HB→Prop
 | 0,listed,t,H=>Ed aos waits listed=[]∧K t H
 | fuel+1,listed,t,H=>(Ed aos waits listed=[]→K t H)∧∀i ∈ Ed aos waits listed,aOp P aos fl np C i (Ic K fuel (listed.setIfInBounds i true)) t H
theorem Gs {i:Nat} {listed:Array Bool} :i ∈ Ed aos waits listed↔i < aos.length∧listed.getD i true=false∧∀j ∈ waits.getD i [],listed.getD j false=true:=by
 unfold Ed
 simp[List.mem_filter,List.all_eq_true]
theorem Aaz {i j:Nat} {listed:Array Bool} (h:j ∈ Ed aos waits listed) (hne:j≠i):j ∈ Ed aos waits (listed.setIfInBounds i true):=by
 rw[Gs] at *
 exact⟨h.1,by rw[getD_set_ne true (Ne.symm hne)]; exact h.2.1,fun x hx=>getD_set_true (h.2.2 x hx)⟩
def U7 (i:Nat) (o:AO) (t:List AV) (H:List HB) (v:AV) (H':List HB):Prop:=
 (A7 t o.guard=true∧(if fl i=true then (∀ H2,C H2→Ck P o.op (aev t) H2 v H2)∧H'=H else Ck P o.op (aev t) H v H'∧(C H'∨np≤i)))∨(A7 t o.guard=false∧v= .undef∧H'=H)
variable {P aos waits fl np C}
def cl2 (waits:List (List Nat)) (j x:Nat):Bool:=(waits.getD j []).contains x || (waits.getD j []).any fun y=>(waits.getD y []).contains x
theorem A1t {K:List AV→List HB→Prop} {i:Nat} {oi:AO} (hi:aos[i]? =some oi) (hpost: ∀j,np≤j→j < aos.length→∀x,x < np→cl2 waits j x=true) (hfl: ∀j,j < aos.length→fl j=true→j < np):
 ∀(fuel:Nat) (listed:Array Bool) (t:List AV) (H:List HB) (v:AV) (H':List HB),
  (∀ y,listed.getD y false=true→∀z ∈ waits.getD y [],listed.getD z false=true)→
  (∀ j oj,aos[j]? =some oj→j≠i→listed.getD j true=false→i ∉ waits.getD j []→Tr oi oj=true∧(fl i=true∨fl j=true))→
  i ∈ Ed aos waits listed→(∀ j,j < aos.length→listed.getD j true=false→fl j=true→C H)→U7 P fl np C i oi t H v H'→
  Ic P aos waits fl np C K fuel (listed.setIfInBounds i true) (Ax t oi.dst v) H'→Ic P aos waits fl np C K (fuel+1) listed t H:=by
 have take: ∀(n:List AV→List HB→Prop) (t:List AV) (H:List HB) (v:AV) (H':List HB),(fl i=true→C H)→U7 P fl np C i oi t H v H'→n (Ax t oi.dst v) H'→aOp P aos fl np C i n t H:=by
  intro n t H v H' hc hy hn
  unfold aOp
  simp only[hi]
  rcases hy with⟨hg,hy⟩ | ⟨hg,rfl,rfl⟩
  · simp only[hg,if_true]
    split at hy
    · rename_i hf
      obtain⟨h1,rfl⟩:=hy
      simp only[hf,if_true]; exact⟨hc hf,v,h1,hn⟩
    · rename_i hf
      simp only[hf]; exact⟨v,H',hy.1,hy.2,hn⟩
  · simp only[hg,Bool.false_eq_true,if_false]; exact hn
 intro fuel
 induction fuel with
 | zero=>
   intro listed t H v H' _ _ hr hC hy h0
   refine⟨fun h=>(by rw[h] at hr;cases hr),fun j hj=>?_⟩
   by_cases hji:j=i
   · subst hji;exact take _ t H v H' (fun hf=>hC j ((Gs ..).1 hr).1 ((Gs ..).1 hr).2.1 hf) hy h0
   · have:=Aaz aos waits hj hji
     rw[h0.1] at this;cases this
 | succ fuel ih=>
   intro listed t H v H' hdc hfree hr hC hy h0
   refine⟨fun h=>(by rw[h] at hr;cases hr),fun j hj=>?_⟩
   by_cases hji:j=i
   · subst hji;exact take _ t H v H' (fun hf=>hC j ((Gs ..).1 hr).1 ((Gs ..).1 hr).2.1 hf) hy h0
   · obtain⟨hjl,hjun,hjw⟩:=(Gs ..).1 hj
     obtain⟨hil,hiun,hiw⟩:=(Gs ..).1 hr
     have hoj: ∃oj,aos[j]? =some oj:=⟨aos[j],by simp[hjl]⟩
     obtain⟨oj,hoj⟩:=hoj
     have hnot:i ∉ waits.getD j []:=fun hin=>by
      have h1:=hjw i hin
      rcases Nat.lt_or_ge i listed.size with h' | h'
      · simp[h'] at hiun h1;rw[hiun] at h1;cases h1
      · simp[Array.getElem?_eq_none h'] at h1
     obtain⟨hap,hfl2⟩:=hfree j oj hoj hji hjun hnot
     obtain⟨q1,q2,q3⟩:=A23 hap
     have hj0:=h0.2 j (Aaz aos waits hj hji)
     have rest: ∀(u:AV) (H2:List HB) (H2':List HB),U7 P fl np C i oi (Ax t oj.dst u) H2 v H2'→(∀ x,x < aos.length→(listed.setIfInBounds j true).getD x true=false→fl x=true→C H2)→
      Ic P aos waits fl np C K fuel ((listed.setIfInBounds i true).setIfInBounds j true) (Ax (Ax t oi.dst v) oj.dst u) H2'→Ic P aos waits fl np C K (fuel+1) (listed.setIfInBounds j true) (Ax t oj.dst u) H2:=by
      intro u H2 H2' hy2 hC2 hn
      refine ih _ _ _ v H2' (fun y hy z hz=>?_) (fun x ox hx hxi hun hw=>?_) (Aaz aos waits hr (Ne.symm hji)) hC2 hy2 ?_
      · by_cases hyj:j=y
        · subst hyj;exact getD_set_true (hjw z hz)
        · rw[getD_set_ne false hyj] at hy;exact getD_set_true (hdc y hy z hz)
      · refine hfree x ox hx hxi ?_ hw
        by_cases hjx:j=x
        · subst hjx;exact hjun
        · rw[getD_set_ne true hjx] at hun;exact hun
      · rw[Array.setIfInBounds_comm _ _ hji,← Arw q2]
        exact hn
     have hgi: ∀u,A7 (Ax t oj.dst u) oi.guard=A7 t oi.guard:=fun u=>Afy q3
     have hgj:A7 (Ax t oi.dst v) oj.guard=A7 t oj.guard:=Afy q1
     have unl: ∀x,(listed.setIfInBounds j true).getD x true=false→listed.getD x true=false:=fun x hx=>by
      by_cases hjx:j=x
      · subst hjx;exact hjun
      · rw[getD_set_ne true hjx] at hx;exact hx
     unfold aOp at hj0 ⊢
     simp only[hoj] at hj0 ⊢
     rw[hgj] at hj0
     split
     · rename_i hg
       simp only[hg,if_true] at hj0
       split
       · rename_i hfj
         simp only[hfj,if_true] at hj0
         obtain⟨_,u,hu,hn⟩:=hj0
         refine⟨hC j hjl hjun hfj,u,fun H2 hH2=>(Ma q1).1 (hu H2 hH2),?_⟩
         refine rest u H H' ?_ (fun x hx hun hf=>hC x hx (unl x hun) hf) hn
         rcases hy with⟨g1,hy⟩ | ⟨g1,g2,g3⟩
         · left;refine⟨by rw[hgi]; exact g1,?_⟩
           split at hy
           · rename_i hfi;simp only[hfi,if_true]; exact⟨fun H2 hH2=>(Ma q3).2 (hy.1 H2 hH2),hy.2⟩
           · rename_i hfi;simp only[hfi]; exact⟨(Ma q3).2 hy.1,hy.2⟩
         · right;exact⟨by rw[hgi]; exact g1,g2,g3⟩
       · rename_i hfj
         simp only[hfj] at hj0
         obtain⟨u,H2,hu,hcu,hn⟩:=hj0
         have hfi:fl i=true:=by rcases hfl2 with h | h;exact h;exact absurd h hfj
         have hC2: ∀x,x < aos.length→(listed.setIfInBounds j true).getD x true=false→fl x=true→C H2:=by
          intro x hx hun hf
          rcases hcu with h | h
          · exact h
          · have hxw:listed.getD x false=true:=by
             have:=hpost j h hjl x (hfl x hx hf)
             simp only[cl2,Bool.or_eq_true,List.contains_iff_mem,List.any_eq_true] at this
             rcases this with h | ⟨y,hy,h⟩
             · exact hjw x h
             · exact hdc y (hjw y hy) x h
            have:=unl x hun
            rcases Nat.lt_or_ge x listed.size with h' | h'
            · simp[h'] at this hxw;rw[this] at hxw;cases hxw
            · simp[Array.getElem?_eq_none h'] at hxw
         have hH:H'=H:=by
          rcases hy with⟨_,hy⟩ | ⟨_,_,h⟩
          · simp only[hfi,if_true] at hy;exact hy.2
          · exact h
         rw[hH] at hu
         refine⟨u,H2,(Ma q1).1 hu,hcu,?_⟩
         refine rest u H2 H2 ?_ hC2 hn
         rcases hy with⟨g1,hy⟩ | ⟨g1,g2,g3⟩
         · left;refine⟨by rw[hgi]; exact g1,?_⟩
           simp only[hfi,if_true] at hy ⊢
           exact⟨fun H2 hH2=>(Ma q3).2 (hy.1 H2 hH2),trivial⟩
         · right;exact⟨by rw[hgi]; exact g1,g2,rfl⟩
     · rename_i hg
       simp only[hg] at hj0
       refine rest .undef H H' ?_ (fun x hx hun hf=>hC x hx (unl x hun) hf) hj0
       rcases hy with⟨g1,hy⟩ | ⟨g1,g2,g3⟩
       · left;refine⟨by rw[hgi]; exact g1,?_⟩
         split at hy
         · rename_i hfi;simp only[hfi,if_true]; exact⟨fun H2 hH2=>(Ma q3).2 (hy.1 H2 hH2),hy.2⟩
         · rename_i hfi;simp only[hfi]; exact⟨(Ma q3).2 hy.1,hy.2⟩
       · right;exact⟨by rw[hgi]; exact g1,g2,g3⟩
end
end Go.Proofs.YtemdkfnenjpioaaGreatDoor
namespace Go.Proofs.YtemdkfnenjpioaaGreatDoor
open Go
variable [Cc]
def Hm (P:Program) (fl:Nat→Bool) (np:Nat) (C:List HB→Prop):Nat→List AO→List AV→List HB→(List AV→List HB→Prop)→Prop
 | _,[],t,H,K=>K t H
 | k,o :: r,t,H,K=>
   (A7 t o.guard=true∧((fl k=true∧C H∧∃v,(∀ H2,C H2→Ck P o.op (aev t) H2 v H2)∧Hm P fl np C (k+1) r (Ax t o.dst v) H K)∨
    (fl k=false∧∃v H',Ck P o.op (aev t) H v H'∧(C H'∨np≤k)∧Hm P fl np C (k+1) r (Ax t o.dst v) H' K)))∨
   (A7 t o.guard=false∧Hm P fl np C (k+1) r (Ax t o.dst .undef) H K)
def D8 (aos:List AO) (waits:List (List Nat)) (fl:Nat→Bool) (np:Nat):Bool:=
 (List.range aos.length).all (fun j=>(waits.getD j []).all (fun x=>decide (x < j)) && (!decide (np≤j) || (List.range np).all fun x=>cl2 waits j x) && (!fl j || decide (j < np)) &&
  (List.range j).all fun i=>(waits.getD j []).contains i || (match aos[i]?,aos[j]? with | some x,some y=>Tr x y | _,_=>false) && (fl i || fl j))
theorem Ml {aos:List AO} {waits:List (List Nat)} {fl:Nat→Bool} {np:Nat} (h:D8 aos waits fl np=true) {j:Nat} (hj:j < aos.length):
 (∀ x ∈ waits.getD j [],x < j)∧(np≤j→∀x,x < np→cl2 waits j x=true)∧(fl j=true→j < np)∧∀i,i < j→i ∉ waits.getD j []→∀x y,aos[i]? =some x→aos[j]? =some y→Tr x y=true∧(fl i=true∨fl j=true):=by
 unfold D8 at h
 rw[List.all_eq_true] at h
 have h:=h j (List.mem_range.2 hj)
 simp only[Bool.and_eq_true,List.all_eq_true,decide_eq_true_eq,List.mem_range,Bool.or_eq_true,Bool.not_eq_true'] at h
 obtain⟨⟨⟨h1,h2⟩,h3⟩,h4⟩:=h
 refine⟨h1,fun hn x hx=>?_,fun hf=>?_,fun i hi hni x y hx hy=>?_⟩
 · rcases h2 with h2 | h2
   · simp at h2;omega
   · exact h2 x hx
 · rcases h3 with h3 | h3
   · rw[hf] at h3;cases h3
   · exact h3
 · rcases h4 i hi with h | h
   · exact absurd (by simpa using h) hni
   · rw[hx,hy] at h;exact h
section
variable {P:Program} {aos:List AO} {waits:List (List Nat)} {fl:Nat→Bool} {np:Nat} {C:List HB→Prop} {K:List AV→List HB→Prop}
theorem Ach (hok:D8 aos waits fl np=true): ∀(l:List AO) (k:Nat) (listed:Array Bool) (t:List AV) (H:List HB),(∀ j,l[j]? =aos[k+j]?)→k+l.length=aos.length→listed.size=aos.length→(∀ j,j < aos.length→listed[j]? =some (decide (j < k)))→
 (C H∨np≤k)→Hm P fl np C k l t H K→Ic P aos waits fl np C K l.length listed t H
 | [],k,listed,t,H,_,hk,hz,hl,_,h=>by
   refine⟨?_,h⟩
   cases hr:Ed aos waits listed with
   | nil=>rfl
   | cons x xs=>
     have:x ∈ Ed aos waits listed:=by rw[hr]; simp
     rw[Gs] at this
     have h2:=hl x this.1
     simp at hk
     simp[Array.getD_eq_getD_getElem?,h2] at this
     omega
 | o :: l,k,listed,t,H,hl0,hk,hz,hl,hC,h=>by
   simp only[List.length_cons] at hk
   have hkn:k < aos.length:=by omega
   have ho:aos[k]? =some o:=by simpa using (hl0 0).symm
   have hl0': ∀j,l[j]? =aos[k+1+j]?:=fun j=>by
    have:=hl0 (j+1)
    simp only[List.getElem?_cons_succ] at this
    rw[this]; congr 1;omega
   obtain⟨w1,w2,w3,w4⟩:=Ml hok hkn
   have hr:k ∈ Ed aos waits listed:=by
    rw[Gs]
    refine⟨hkn,by simp[Array.getD_eq_getD_getElem?,hl k hkn],fun j hj=>?_⟩
    have:=w1 j hj
    simp[Array.getD_eq_getD_getElem?,hl j (by omega),this]
   have hl': ∀j,j < aos.length→(listed.setIfInBounds k true)[j]? =some (decide (j < k+1)):=fun j hj=>by
    by_cases e:k=j
    · subst e;simp[hz,hkn]
    · rw[Array.getElem?_setIfInBounds_ne e,hl j hj]
      congr 1
      simp;omega
   have next: ∀(v:AV) (H':List HB),(C H'∨np≤k+1)→U7 P fl np C k o t H v H'→Hm P fl np C (k+1) l (Ax t o.dst v) H' K→Ic P aos waits fl np C K (l.length+1) listed t H:=by
    intro v H' hC' hy hd
    refine A1t ho (fun j hj hjl x hx=>(Ml hok hjl).2.1 hj x hx) (fun j hjl hf=>(Ml hok hjl).2.2.1 hf) l.length listed t H v H' (fun y hy z hz=>?_) (fun j oj hoj hne hun hnw=>?_) hr (fun j hjl hun hf=>?_) hy (Ach hok l (k+1) _ _ H' hl0' (by omega) (by simpa using hz) hl' hC' hd)
    · have hyl:y < aos.length:=by
       rcases Nat.lt_or_ge y aos.length with h | h
       · exact h
       · simp[Array.getD_eq_getD_getElem?,Array.getElem?_eq_none (show listed.size≤y by omega)] at hy
      have hyk:y < k:=by simpa[Array.getD_eq_getD_getElem?,hl y hyl] using hy
      have hzy:=(Ml hok hyl).1 z hz
      simp[Array.getD_eq_getD_getElem?,hl z (by omega)]
      omega
    · have hjl:j < aos.length:=(List.getElem?_eq_some_iff.1 hoj).1
      have hjk:k < j:=by
       simp[Array.getD_eq_getD_getElem?,hl j hjl] at hun;omega
      exact (Ml hok hjl).2.2.2 k hjk hnw o oj ho hoj
    · rcases hC with h | h
      · exact h
      · have:=(Ml hok hjl).2.2.1 hf
        simp[Array.getD_eq_getD_getElem?,hl j hjl] at hun;omega
   simp only[Hm] at h
   rcases h with⟨hg,⟨hf,hCH,v,hq,hd⟩ | ⟨hf,v,H',hq,hc,hd⟩⟩ | ⟨hg,hd⟩
   · exact next v H (.inl hCH) (.inl ⟨hg,by simp only[hf,if_true]; exact⟨hq,trivial⟩⟩) hd
   · exact next v H' (hc.imp id (by omega)) (.inl ⟨hg,by simp only[hf,Bool.false_eq_true,if_false]; exact⟨hq,hc⟩⟩) hd
   · exact next .undef H (hC.imp id (by omega)) (.inr ⟨hg,rfl,rfl⟩) hd
def Ht (ops:Array Oper):List (List Nat):=ops.toList.map fun o=>(o.after.toList.filter (Region.binds .any)).map (·.on)
theorem Ld {ops:Array Oper} : ∀{l:List Oper} {aos:List AO},Dl P ops l=some aos→l.length=aos.length∧∀(i:Nat) o,l[i]? =some o→∃x,aos[i]? =some x∧Kz P ops o=some x
 | [],aos,h=>by simp only[Dl,Option.some.injEq] at h;subst h;simp
 | o :: l,aos,h=>by
   simp only[Dl] at h
   split at h
   · rename_i x xs h1 h2
     simp only[Option.some.injEq] at h;subst h
     obtain⟨e1,e2⟩:=Ld h2
     refine⟨by simp[e1],fun i o' hi=>?_⟩
     cases i with
     | zero=>simp at hi;subst hi;exact⟨x,rfl,h1⟩
     | succ i=>simp at hi;simpa using e2 i o' hi
   · cases h
theorem Sx {ops:Array Oper} (hc:Dl P ops ops.toList=some aos) (hw:waits=Ht ops) {i:Nat} {listed:Array Bool} :i ∈ Region.ready .any ops listed↔i ∈ Ed aos waits listed:=by
 subst hw
 have hlen:=(Ld hc).1
 rw[mem_ready,Gs]
 constructor
 · rintro⟨h1,o,ho,h2⟩
   have hi:=(Array.getElem?_eq_some_iff.1 ho).1
   refine⟨by rw[← hlen]; simpa using hi,h1,fun j hj=>?_⟩
   have hwo:(Ht ops).getD i []=(o.after.toList.filter (Region.binds .any)).map (·.on):=by
    simp[Ht,List.getD_eq_getElem?_getD,ho]
   rw[hwo,List.mem_map] at hj
   obtain⟨e,he,rfl⟩:=hj
   rw[List.mem_filter] at he
   exact h2 e (by simpa using he.1) he.2
 · rintro⟨h1,h2,h3⟩
   have hi:i < ops.size:=by rw[← hlen] at h1;simpa using h1
   refine⟨h2,ops[i],by simp[hi],fun e he hb=>h3 _ ?_⟩
   have hwo:(Ht ops).getD i []=(ops[i].after.toList.filter (Region.binds .any)).map (·.on):=by
    simp[Ht,List.getD_eq_getElem?_getD,hi]
   rw[hwo,List.mem_map]
   exact⟨e,List.mem_filter.2 ⟨by simpa using he,hb⟩,rfl⟩
theorem O5 {ops:Array Oper} (hc:Dl P ops ops.toList=some aos) (hw:waits=Ht ops) {listed:Array Bool} :Region.ready .any ops listed=[]↔Ed aos waits listed=[]:=by
 constructor
 · intro h
   rw[List.eq_nil_iff_forall_not_mem] at h ⊢
   exact fun x hx=>h x ((Sx hc hw).2 hx)
 · intro h
   rw[List.eq_nil_iff_forall_not_mem] at h ⊢
   exact fun x hx=>h x ((Sx hc hw).1 hx)
theorem Adi {ops:Array Oper} (hc:Dl P ops ops.toList=some aos) (hw:waits=Ht ops) {Q:Exit→Act→World→Prop} : ∀(fuel:Nat) (listed:Array Bool) (F:Addr→Prop) (g:Gh) (H:List HB) (w:World) (t:List AV) (a:Act),Sim P F g H w t a→Ic P aos waits fl np C K fuel listed t H→
 (∀ F' g' H' w' t' a',Sim P F' g' H' w' t' a'→Ext F g H w F' g' H' w'→K t' H'→Q .normal a' w')→D4 [] F g H w Q→wpAny P .any ops Q fuel listed a w
 | 0,listed,F,g,H,w,t,a,hs,h,hQ,_=>⟨(O5 hc hw).2 h.1,hQ F g H w t a hs (Ext.refl _ _ _ _) h.2⟩
 | fuel+1,listed,F,g,H,w,t,a,hs,h,hQ,hP=>by
   refine⟨fun hr=>hQ F g H w t a hs (Ext.refl _ _ _ _) (h.1 ((O5 hc hw).1 hr)),fun i hi=>?_⟩
   have h2:=h.2 i ((Sx hc hw).1 hi)
   obtain⟨_,o,ho,_⟩:=mem_ready.1 hi
   obtain⟨x,hx,hcx⟩:=(Ld hc).2 i o (by simpa using ho)
   unfold Kz at hcx
   split at hcx
   · rename_i op gd c1 c2
     simp only[Option.some.injEq] at hcx;subst hcx
     obtain⟨s1,s2,s3,s4⟩:=hs
     have hg:=Mx s2 c2
     unfold aOp at h2
     simp only[hx] at h2
     unfold wpOp
     simp only[ho,hg]
     have go: ∀v H',Ck P op (aev t) H v H'→Ic P aos waits fl np C K fuel (listed.setIfInBounds i true) (Ax t o.dst v) H'→o.wp P a w (wpAny P .any ops Q fuel (listed.setIfInBounds i true)) Q:=by
      intro v H' e1 e2
      exact Ik s4 s1 s2 c1 e1 (fun w' F' g' u r1 r2 r3=>
       Adi hc hw fuel _ F' g' H' w' _ _ ⟨r2,(s2.mono r3.keeps).put r1 _,by rw[Hi]; exact s3,s4.mono r3.keeps⟩ e2 (fun F2 g2 H2 w2 t2 a2 q1 q2 q3=>hQ F2 g2 H2 w2 t2 a2 q1 (r3.trans q2) q3) (hP.ext r3)) s3 hP
     split at h2
     · rename_i hgt
       simp only[hgt,if_true]
       left
       split at h2
       · obtain⟨hCH,v,hv,hn⟩:=h2;exact go v H (hv H hCH) hn
       · obtain⟨v,H',hv,_,hn⟩:=h2;exact go v H' hv hn
     · rename_i hgt
       simp only[hgt,Bool.false_eq_true,if_false]
       exact Adi hc hw fuel _ F g H w _ _ ⟨s1,s2.put Dc _,by rw[Hi]; exact s3,s4⟩ h2 hQ hP
   · cases hcx
end
theorem Sim.drew {P:Program} {F:Addr→Prop} {g:Gh} {H:List HB} {w w':World} {t:List AV} {a:Act} (h:Sim P F g H w t a) (hw:w'.heap=w.heap) (hio:w'.os=w.os∧w'.output=w.output):Sim P F g H w' t a∧Ext F g H w F g H w':=by
 have hK:Cr F g w F g w':=⟨fun _ h=>h,fun a _=>Fs (by rw[hw]),Gh.le_refl g⟩
 obtain⟨s1,s2,s3,s4⟩:=h
 refine⟨⟨⟨fun a ha=>by rw[hw]; exact s1.live a ha,s1.beyond,s1.inj,fun b cs hb=>?_,fun t n k ty ht=>?_,s1.spots,fun b e cs hb=>?_,fun b ks hb=>?_⟩,s2.mono hK,s3,s4.mono hK⟩,⟨fun _ h=>h,hK.keep,hK.gh,by rw[hw]; exact Nat.le_refl _,fun B _ _=>by rw[hw],fun a h=>.inl h,fun b B h h'=>.inl ⟨h,h'⟩,Nat.le_refl _,hio⟩⟩
 · obtain⟨B,vs,e,h1,h2,h3,h4,h5⟩:=s1.var b cs hb
   exact⟨B,vs,e,h1,h2,by rw[hw]; exact h3,RL.mono hK _ _ h4,h5⟩
 · obtain⟨B,cap,vs,e,fr,h1,h2,h3,h4⟩:=s1.tok t n k _ ht
   exact⟨B,cap,vs,e,fr,h1,h2,by rw[hw]; exact h3,h4⟩
 · obtain⟨B,vs,h1,h2,h3,h4,h5⟩:=s1.tvar b e cs hb
   exact⟨B,vs,h1,h2,by rw[hw]; exact h3,RL.mono hK _ _ h4,h5⟩
 · rcases s1.mp b _ hb with q | ⟨B,es,ck,h1,h2,h3,h4⟩
   · exact .inl q
   · exact .inr ⟨B,es,ck,h1,h2,by rw[hw]; exact h3,h4⟩
end Go.Proofs.YtemdkfnenjpioaaGreatDoor
namespace Go.Proofs.YtemdkfnenjpioaaGreatDoor
open Go
inductive AC where
 | skip
 | region (ops:List AO)
 | draw (ops:List AO) (waits:List (List Nat))
 | seq (a b:AC)
 | cond (c:AR) (a b:AC)
 | block (id:Nat) (a:AC)
 | loop (a:AC)
 | exit (id:Nat)
 | ret
 | bad
def B4 (P:Program):Code→Option AC
 | .skip=>some .skip
 | .region _ ops dr=>match Dl P ops ops.toList with | some l=>some (if dr=true then .draw l (Ht ops) else .region l) | none=>some .bad
 | .seq a b=>(B4 P a).bind fun x=>(B4 P b).map fun y=>.seq x y
 | .cond c a b=>(cvX c).bind fun d=>(B4 P a).bind fun x=>(B4 P b).map fun y=>.cond d x y
 | .block id a=>(B4 P a).map (.block id)
 | .loop a=>(B4 P a).map .loop
 | .exit id=>some (.exit id)
 | .ret=>some .ret
 | _=>some .bad
inductive AX where
 | normal
 | exit (id:Nat)
 | ret
def AX.to:AX→Exit
 | .normal=>.normal
 | .exit id=>.exit id
 | .ret=>.ret
def Hp [Cc] (P:Program) (Q:AX→List AV→List HB→Prop) (F:Addr→Prop) (g:Gh) (H:List HB) (w:World) (e:Exit) (a':Act) (w':World):Prop:=
 (∃ x t' H' F' g',e=AX.to x∧Q x t' H'∧Sim P F' g' H' w' t' a'∧Ext F g H w F' g' H' w')∨
 ∃v u H' F' g',e= .panic [{ v:=u,recovered:=false }]∧R F' g' w' v u∧Cc.pk v H'∧St F' g' H' w'∧a'.defers=[]∧Ext F g H w F' g' H' w'
def AWp [Cc] (P:Program) (ac:AC) (t:List AV) (H:List HB) (Q:AX→List AV→List HB→Prop):Prop:=
 ∀c,B4 P c=some ac→∀F g w a,Sim P F g H w t a→c.wp P (Hp P Q F g H w) a w
theorem Hp.ext [Cc] {P:Program} {Q:AX→List AV→List HB→Prop} {F F':Addr→Prop} {g g':Gh} {H H':List HB} {w w':World} (hx:Ext F g H w F' g' H' w') {e:Exit} {a2:Act} {w2:World} (h:Hp P Q F' g' H' w' e a2 w2):Hp P Q F g H w e a2 w2:=by
 rcases h with⟨x,t,H2,F2,g2,h1,h2,h3,h4⟩ | ⟨v,u,H2,F2,g2,h1,h2,h3,h4,h5,h6⟩
 · exact .inl ⟨x,t,H2,F2,g2,h1,h2,h3,hx.trans h4⟩
 · exact .inr ⟨v,u,H2,F2,g2,h1,h2,h3,h4,h5,hx.trans h6⟩
theorem Hp.pan [Cc] {P:Program} {Q:AX→List AV→List HB→Prop} {F:Addr→Prop} {g:Gh} {H:List HB} {w:World} :D4 [] F g H w (Hp P Q F g H w):=
 fun F' g' H' _ _ v u h1 h2 h3 h4 h5=>.inr ⟨v,u,H',F',g',rfl,h1,h5,h2,h4,h3⟩
theorem AWp.det {P:Program} {ac:AC} {t:List AV} {H:List HB} {Q:AX→List AV→List HB→Prop} (h:AWp P ac t H Q) (c:Code) (hc:B4 P c=some ac) (F:Addr→Prop) (g:Gh) (w:World) (a:Act) (hs:Sim P F g H w t a):
 c.wp P (fun e a' w'=>∃x t' H' F' g',e=AX.to x∧Q x t' H'∧Sim P F' g' H' w' t' a'∧Ext F g H w F' g' H' w') a w:=
 wp_mono (h c hc F g w a hs) fun _ _ _ h=>by
  rcases h with h | ⟨_,_,_,_,_,_,_,h,_⟩
  · exact h
  · exact h.elim
section
variable {P:Program} {c:Code}
inductive Cmp (P:Program):Code→AC→Prop where
 | skip:Cmp P .skip .skip
 | region (id:Nat) (ops:Array Oper) (l:List AO) (h:Dl P ops ops.toList=some l):Cmp P (.region id ops false) (.region l)
 | draw (id:Nat) (ops:Array Oper) (l:List AO) (h:Dl P ops ops.toList=some l):Cmp P (.region id ops true) (.draw l (Ht ops))
 | seq (a b:Code) (x y:AC) (h1:B4 P a=some x) (h2:B4 P b=some y):Cmp P (.seq a b) (.seq x y)
 | cond (e:Operand) (a b:Code) (d:AR) (x y:AC) (h0:cvX e=some d) (h1:B4 P a=some x) (h2:B4 P b=some y):Cmp P (.cond e a b) (.cond d x y)
 | block (id:Nat) (a:Code) (x:AC) (h:B4 P a=some x):Cmp P (.block id a) (.block id x)
 | loop (a:Code) (x:AC) (h:B4 P a=some x):Cmp P (.loop a) (.loop x)
 | exit (id:Nat):Cmp P (.exit id) (.exit id)
 | ret:Cmp P .ret .ret
 | bad (c:Code):Cmp P c .bad
theorem Kw {ac:AC} (h:B4 P c=some ac):Cmp P c ac:=by
 cases c<;>simp only[B4,Option.bind_eq_some_iff,Option.map_eq_some_iff,Option.some.injEq] at h
 · subst h;exact .skip
 · rename_i id ops dr
   split at h
   · rename_i l h1
     simp only[Option.some.injEq] at h
     cases dr with
     | true=>simp only[if_true] at h;subst h;exact .draw id ops l h1
     | false=>simp only[Bool.false_eq_true,if_false] at h;subst h;exact .region id ops l h1
   · simp only[Option.some.injEq] at h;subst h;exact .bad _
 · obtain⟨x,h1,y,h2,rfl⟩:=h;exact .seq _ _ _ _ h1 h2
 · obtain⟨d,h0,x,h1,y,h2,rfl⟩:=h;exact .cond _ _ _ _ _ _ h0 h1 h2
 · obtain⟨x,h1,rfl⟩:=h;exact .block _ _ _ h1
 · obtain⟨x,h1,rfl⟩:=h;exact .loop _ _ h1
 · subst h;exact .bad _
 · subst h;exact .exit _
 · subst h;exact .bad _
 · subst h;exact .bad _
 · subst h;exact .bad _
 · subst h;exact .ret
 · subst h;exact .bad _
theorem cmp_skip (h:B4 P c=some .skip):c= .skip:=by cases Kw h;rfl
theorem cmp_exit {id:Nat} (h:B4 P c=some (.exit id)):c= .exit id:=by cases Kw h;rfl
theorem cmp_ret (h:B4 P c=some .ret):c= .ret:=by cases Kw h;rfl
theorem Vw {x y:AC} (h:B4 P c=some (.seq x y)): ∃a b,c= .seq a b∧B4 P a=some x∧B4 P b=some y:=by
 cases Kw h;exact⟨_,_,rfl,by assumption,by assumption⟩
theorem cmp_cond {d:AR} {x y:AC} (h:B4 P c=some (.cond d x y)): ∃e a b,c= .cond e a b∧cvX e=some d∧B4 P a=some x∧B4 P b=some y:=by
 cases Kw h;exact⟨_,_,_,rfl,by assumption,by assumption,by assumption⟩
theorem Atk {id:Nat} {x:AC} (h:B4 P c=some (.block id x)): ∃a,c= .block id a∧B4 P a=some x:=by
 cases Kw h;exact⟨_,rfl,by assumption⟩
theorem cmp_loop {x:AC} (h:B4 P c=some (.loop x)): ∃a,c= .loop a∧B4 P a=some x:=by
 cases Kw h;exact⟨_,rfl,by assumption⟩
theorem Yl {l:List AO} (h:B4 P c=some (.region l)): ∃id ops,c= .region id ops false∧Dl P ops ops.toList=some l:=by
 cases Kw h;exact⟨_,_,rfl,by assumption⟩
theorem Ab4 {l:List AO} {ws:List (List Nat)} (h:B4 P c=some (.draw l ws)): ∃id ops,c= .region id ops true∧Dl P ops ops.toList=some l∧ws=Ht ops:=by
 cases Kw h;exact⟨_,_,rfl,by assumption,rfl⟩
theorem Amu {Q Q':Exit→Act→World→Prop} (hq: ∀e a w,Q e a w→Q' e a w): ∀(n:Nat) (a:Act) (w:World),Code.rounds P c Q n a w→Code.rounds P c Q' n a w
 | 0,_,_,h=>h
 | n+1,a,w,h=>by
   rw[rounds_succ] at h ⊢
   refine wp_mono h fun e a' w' he=>?_
   cases e<;>simp only[Exit.then] at he ⊢<;>first | exact Amu hq n _ _ he | exact hq _ _ _ he
end
section
variable [Cc] {P:Program} {t:List AV} {H:List HB} {Q:AX→List AV→List HB→Prop}
theorem Hp.mono {Q':AX→List AV→List HB→Prop} (hq: ∀x t H,Q x t H→Q' x t H) {F:Addr→Prop} {g:Gh} {w:World} {e:Exit} {a':Act} {w':World} (h:Hp P Q F g H w e a' w'):Hp P Q' F g H w e a' w':=by
 rcases h with⟨x,t,H2,F2,g2,h1,h2,h3⟩ | h
 · exact .inl ⟨x,t,H2,F2,g2,h1,hq _ _ _ h2,h3⟩
 · exact .inr h
theorem AWp.mono {ac:AC} {Q':AX→List AV→List HB→Prop} (h:AWp P ac t H Q) (hq: ∀x t H,Q x t H→Q' x t H):AWp P ac t H Q':=
 fun c hc F g w a hs=>wp_mono (h c hc F g w a hs) fun _ _ _ h=>h.mono hq
theorem AWp.skip (h:Q .normal t H):AWp P .skip t H Q:=by
 intro c hc F g w a hs
 rw[cmp_skip hc]
 exact wp_skip (.inl ⟨.normal,t,H,F,g,rfl,h,hs,Ext.refl _ _ _ _⟩)
theorem AWp.exit {id:Nat} (h:Q (.exit id) t H):AWp P (.exit id) t H Q:=by
 intro c hc F g w a hs
 rw[cmp_exit hc]
 exact wp_exit (.inl ⟨.exit _,t,H,F,g,rfl,h,hs,Ext.refl _ _ _ _⟩)
theorem AWp.ret (h:Q .ret t H):AWp P .ret t H Q:=by
 intro c hc F g w a hs
 rw[cmp_ret hc]
 exact wp_ret (.inl ⟨.ret,t,H,F,g,rfl,h,hs,Ext.refl _ _ _ _⟩)
def Lp (N:List AV→List HB→Prop) (Q:AX→List AV→List HB→Prop):AX→List AV→List HB→Prop
 | .normal,t,H=>N t H
 | e,t,H=>Q e t H
def Rb (id:Nat) (Q:AX→List AV→List HB→Prop):AX→List AV→List HB→Prop
 | .exit i,t,H=>if i=id then Q .normal t H else Q (.exit i) t H
 | e,t,H=>Q e t H
theorem AWp.seq {x y:AC} (h:AWp P x t H (Lp (fun t' H'=>AWp P y t' H' Q) Q)):AWp P (.seq x y) t H Q:=by
 intro c hc F g w a hs
 obtain⟨ca,cb,rfl,c1,c2⟩:=Vw hc
 refine wp_seq (wp_mono (h _ c1 F g w a hs) ?_)
 rintro e a' w' (⟨x,t',H',F',g',rfl,hq,hs',hx⟩ | ⟨v,u,H',F',g',rfl,h1,h2,h3,h4,h5⟩)
 · cases x with
   | normal=>
     simp only[AX.to,Exit.then]
     exact wp_mono (hq _ c2 F' g' w' a' hs') fun _ _ _ h=>h.ext hx
   | exit id=>exact .inl ⟨.exit id,t',H',F',g',rfl,hq,hs',hx⟩
   | ret=>exact .inl ⟨.ret,t',H',F',g',rfl,hq,hs',hx⟩
 · exact .inr ⟨v,u,H',F',g',rfl,h1,h2,h3,h4,h5⟩
theorem AWp.cond {c:AR} {x y:AC} {b:Bool} (hb:aev t c= .bool b) (h1:b=true→AWp P x t H Q) (h2:b=false→AWp P y t H Q):AWp P (.cond c x y) t H Q:=by
 intro c' hc F g w a hs
 obtain⟨e,ca,cb,rfl,c0,c1,c2⟩:=cmp_cond hc
 have hr:=Cm hs.2.1 c0
 rw[hb] at hr
 refine Go.wp_cond (J2 hr) ?_
 cases b with
 | true=>exact h1 rfl _ c1 F g w a hs
 | false=>exact h2 rfl _ c2 F g w a hs
theorem AWp.block {id:Nat} {x:AC} (h:AWp P x t H (Rb id Q)):AWp P (.block id x) t H Q:=by
 intro c hc F g w a hs
 obtain⟨ca,rfl,hy⟩:=Atk hc
 refine wp_block (wp_mono (h _ hy F g w a hs) ?_)
 rintro e a' w' (⟨x,t',H',F',g',rfl,hq,hs',hx⟩ | ⟨v,u,H',F',g',rfl,h1,h2,h3,h4,h5⟩)
 · cases x with
   | normal=>exact .inl ⟨.normal,t',H',F',g',rfl,hq,hs',hx⟩
   | exit i=>
     simp only[AX.to,Exit.inBlock]
     simp only[Rb] at hq
     split at hq
     · rename_i hi;rw[if_pos hi]; exact .inl ⟨.normal,t',H',F',g',rfl,hq,hs',hx⟩
     · rename_i hi;rw[if_neg hi]; exact .inl ⟨.exit i,t',H',F',g',rfl,hq,hs',hx⟩
   | ret=>exact .inl ⟨.ret,t',H',F',g',rfl,hq,hs',hx⟩
 · exact .inr ⟨v,u,H',F',g',rfl,h1,h2,h3,h4,h5⟩
theorem AWp.loop {x:AC} (I:Nat→List AV→List HB→Prop) (n:Nat) (h0:I n t H)
 (hr: ∀n t H,I n t H→AWp P x t H (Lp (fun t' H'=>∃m,m < n∧I m t' H') Q)):AWp P (.loop x) t H Q:=by
 intro c hc F g w a hs
 obtain⟨ca,rfl,hy⟩:=cmp_loop hc
 refine wp_loop_rounds (n+1) ?_
 have key: ∀(n m:Nat) (t:List AV) (H:List HB) (F:Addr→Prop) (g:Gh) (w:World) (a:Act),m < n→I m t H→Sim P F g H w t a→
  Code.rounds P ca (Hp P Q F g H w) n a w:=by
  intro n
  induction n with
  | zero=>intro m _ _ _ _ _ _ h;omega
  | succ n ih=>
    intro m t H F g w a hm hI hs
    rw[rounds_succ]
    refine wp_mono (hr m t H hI _ hy F g w a hs) ?_
    rintro e a' w' (⟨x,t',H',F',g',rfl,hq,hs',hx⟩ | ⟨v,u,H',F',g',rfl,h1,h2,h3,h4,h5⟩)
    · cases x with
      | normal=>
        obtain⟨m',hm',hI'⟩:=hq
        simp only[AX.to,Exit.then]
        have:=ih m' t' H' F' g' w' a' (by omega) hI' hs'
        exact Amu (fun e a2 w2 h=>h.ext hx) n _ _ this
      | exit i=>exact .inl ⟨.exit i,t',H',F',g',rfl,hq,hs',hx⟩
      | ret=>exact .inl ⟨.ret,t',H',F',g',rfl,hq,hs',hx⟩
    · exact .inr ⟨v,u,H',F',g',rfl,h1,h2,h3,h4,h5⟩
 exact key (n+1) n t H F g w a (by omega) h0 hs
theorem AWp.region {ops:List AO} (h:Du P ops t H fun t' H'=>Q .normal t' H'):AWp P (.region ops) t H Q:=by
 intro c hc F g w a hs
 obtain⟨id,os,rfl,hy⟩:=Yl hc
 refine wp_region ?_
 have:=Abj (P:=P) (ops:=os) (Q:=Hp P Q F g H w) os.toList ops 0 F g H w t a (by simp) hy hs h (fun F' g' H' w' t' a' q1 q2 q3=>.inl ⟨.normal,t',H',F',g',rfl,q3,q1,q2⟩) Hp.pan
 simpa[List.range_eq_range'] using this
theorem AWp.draw {ops:List AO} {waits:List (List Nat)} (hm:P.follows .mixedOrders=true) (fl:Nat→Bool) (np:Nat) (C:List HB→Prop) (hok:D8 ops waits fl np=true) (hC:C H) (h:Hm P fl np C 0 ops t H fun t' H'=>Q .normal t' H'):AWp P (.draw ops waits) t H Q:=by
 intro c hc F g w a hs
 obtain⟨id,os,rfl,hy,rfl⟩:=Ab4 hc
 refine wp_region_any hm ?_
 obtain⟨hs1,hx1⟩:=hs.drew (w':={ w with drawn:=w.drawn+1 }) rfl ⟨rfl,rfl⟩
 have hlen:=(Ld hy).1
 simp only[Array.length_toList] at hlen
 have h2:=Ach (P:=P) (K:=fun t' H'=>Q .normal t' H') hok ops 0 (Array.replicate os.size false) t H (by simp) (by simp) (by simp[hlen]) (fun j hj=>by simp[hlen,hj]) (.inl hC) h
 rw[← hlen] at h2
 exact Adi hy rfl _ _ F g H _ t a hs1 h2 (fun F' g' H' w' t' a' q1 q2 q3=>.inl ⟨.normal,t',H',F',g',rfl,q3,q1,hx1.trans q2⟩) (fun F' g' H' w' a' v u h1 h2 h3 h4 h5=>.inr ⟨v,u,H',F',g',rfl,h1,h5,h2,h4,hx1.trans h3⟩)
end
end Go.Proofs.YtemdkfnenjpioaaGreatDoor
namespace Go.Proofs.YtemdkfnenjpioaaGreatDoor
open Go
mutual
def AV.inScope (n:Nat):AV→Bool
 | .ptr b _=>decide (b < n)
 | .mapv b=>decide (b < n)
 | .val _=>true
 | .vsl b _=>decide (b < n)
 | .sl tok els=>(match tok with | .own t=>decide (t < n) | _=>true) && A0 n els
 | .eptr cs=>Am n cs
 | .fn _ a b=>Am n a && Am n b
 | .iface _ v=>v.inScope n
 | .agg cs=>Am n cs
 | .tup cs=>Am n cs
 | .bool _=>true
 | .int _ _=>true
 | .str _=>true
 | .nilp=>true
 | .nilm=>true
 | .nilf=>true
 | .nili=>true
def Am (n:Nat):List AV→Bool
 | []=>true
 | x :: xs=>x.inScope n && Am n xs
def A0 (n:Nat):List (List AV)→Bool
 | []=>true
 | x :: xs=>Am n x && A0 n xs
end
mutual
def AV.strip:AV→AV
 | .sl _ els=>.sl .none (A5 els)
 | .eptr cs=>.eptr (Ay cs)
 | .fn f a b=>.fn f (Ay a) (Ay b)
 | .iface t v=>.iface t v.strip
 | .agg cs=>.agg (Ay cs)
 | .tup cs=>.tup (Ay cs)
 | .bool b=>.bool b
 | .int k n=>.int k n
 | .str s=>.str s
 | .nilp=>.nilp
 | .nilm=>.nilm
 | .ptr b o=>.ptr b o
 | .mapv b=>.mapv b
 | .val v=>.val v
 | .vsl b n=>.vsl b n
 | .nilf=>.nilf
 | .nili=>.nili
def Ay:List AV→List AV
 | []=>[]
 | x :: xs=>x.strip :: Ay xs
def A5:List (List AV)→List (List AV)
 | []=>[]
 | x :: xs=>Ay x :: A5 xs
end
theorem Ar5 (x:AV):x.strip.isCell=x.isCell:=by cases x<;>simp[AV.strip,AV.isCell]
theorem Aqj: ∀(xs:List AV),(Ay xs).length=xs.length
 | []=>rfl
 | x :: xs=>by simp[Ay,Aqj xs]
theorem Afn: ∀(xs:List (List AV)),(A5 xs).length=xs.length
 | []=>rfl
 | x :: xs=>by simp[A5,Afn xs]
section
variable {F:Addr→Prop} {g:Gh} {w:World}
mutual
theorem Mu: ∀(x:AV) (v:Value),R F g w x v→R F g w x.strip v
 | .bool _,_,h=>h
 | .int _ _,_,h=>h
 | .str _,_,h=>h
 | .nilp,_,h=>h
 | .nilm,_,h=>h
 | .ptr _ _,_,h=>h
 | .mapv _,_,h=>h
 | .val _,_,h=>h
 | .vsl _ _,_,h=>h
 | .nilf,_,h=>h
 | .nili,_,h=>h
 | .eptr cs,v,h=>by
   simp only[AV.strip,R] at h ⊢
   obtain⟨B,off,h1,h2⟩:=h
   exact⟨B,off,h1,Abo _ _ cs h2⟩
 | .sl tok els,v,h=>by
   simp only[AV.strip,R,Afn] at h ⊢
   obtain⟨h0,h⟩:=h
   refine⟨h0,?_⟩
   rcases h with⟨h1,h2,_⟩ | ⟨B,off,sp,cap,k,h1,h2,hk,h3,h4⟩
   · exact .inl ⟨by rw[h1]; rfl,h2,by simp,by simp⟩
   · exact .inr ⟨B,off,sp,cap,k,h1,h2,⟨hk.1,hk.2.imp (fun e=>by rw[e]; rfl) id⟩,Agt _ _ _ els h3,trivial⟩
 | .fn f first cap,v,h=>by
   simp only[AV.strip,R] at h ⊢
   obtain⟨a1,a2,h1,h2,h3⟩:=h
   exact⟨a1,a2,h1,Ju first _ h2,Ju cap _ h3⟩
 | .iface t x,v,h=>by
   simp only[AV.strip,R] at h ⊢
   obtain⟨u,h1,h2⟩:=h
   exact⟨u,h1,Mu x u h2⟩
 | .agg cs,v,h=>by
   simp only[AV.strip,R] at h ⊢
   obtain⟨a,h1,h2⟩:=h
   exact⟨a,h1,Ju cs _ h2⟩
 | .tup cs,v,h=>by
   simp only[AV.strip,R] at h ⊢
   obtain⟨a,h1,h2⟩:=h
   exact⟨a,h1,Ju cs _ h2⟩
theorem Ju: ∀(x:List AV) (v:List Value),RL F g w x v→RL F g w (Ay x) v
 | [],_,h=>h
 | x :: xs,v,h=>by
   simp only[Ay,RL] at h ⊢
   obtain⟨u,r,h1,h2,h3⟩:=h
   exact⟨u,r,h1,Mu x u h2,Ju xs r h3⟩
theorem Abo: ∀(B off:Nat) (x:List AV),RM F g w B off x→RM F g w B off (Ay x)
 | _,_,[],h=>h
 | B,off,x :: xs,h=>by
   simp only[Ay,RM] at h ⊢
   obtain⟨⟨h0,v,h1,h2,h3⟩,h4⟩:=h
   exact⟨⟨by rw[Ar5]; exact h0,v,h1,h2,Mu x v h3⟩,Abo _ _ xs h4⟩
theorem Agt: ∀(B off k:Nat) (x:List (List AV)),RE F g w B off k x→RE F g w B off k (A5 x)
 | _,_,_,[],h=>h
 | B,off,k,x :: xs,h=>by
   simp only[A5,RE] at h ⊢
   obtain⟨h1,h2,h3⟩:=h
   exact⟨by rw[Aqj]; exact h1,Abo _ _ x h2,Agt _ _ _ xs h3⟩
end
end
section
variable {F:Addr→Prop} {g g':Gh} {w:World} {n:Nat} (hg: ∀b,b < n→g'.blk b=g.blk b∧g'.tk b=g.tk b)
include hg
mutual
theorem F9: ∀(x:AV) (v:Value),x.inScope n=true→R F g w x v→R F g' w x v
 | .bool _,_,_,h=>(by have _:=hg;exact h)
 | .int _ _,_,_,h=>h
 | .str _,_,_,h=>h
 | .nilp,_,_,h=>h
 | .nilm,_,_,h=>h
 | .nilf,_,_,h=>h
 | .nili,_,_,h=>h
 | .ptr b o,v,s,h=>by
   simp only[AV.inScope,decide_eq_true_eq] at s
   simp only[R] at h ⊢
   obtain⟨B,h1,h2,h3⟩:=h
   exact⟨B,by rw[(hg b s).1]; exact h1,by rw[(hg b s).2]; exact h2,h3⟩
 | .mapv b,v,s,h=>by
   simp only[AV.inScope,decide_eq_true_eq] at s
   simp only[R] at h ⊢
   obtain⟨B,h1,h2,h3⟩:=h
   exact⟨B,by rw[(hg b s).1]; exact h1,by rw[(hg b s).2]; exact h2,h3⟩
 | .val _,_,_,h=>h
 | .vsl b m,v,s,h=>by
   simp only[AV.inScope,decide_eq_true_eq] at s
   simp only[R] at h ⊢
   obtain⟨B,cap,h1,h2,h3⟩:=h
   exact⟨B,cap,by rw[(hg b s).1]; exact h1,by rw[(hg b s).2]; exact h2,h3⟩
 | .eptr cs,v,s,h=>by
   simp only[AV.inScope] at s
   simp only[R] at h ⊢
   obtain⟨B,off,h1,h2⟩:=h
   exact⟨B,off,h1,Abz _ _ cs s h2⟩
 | .sl tok els,v,s,h=>by
   simp only[AV.inScope,Bool.and_eq_true] at s
   simp only[R] at h ⊢
   obtain⟨h0,h⟩:=h
   refine⟨h0,?_⟩
   rcases h with h | ⟨B,off,sp,cap,k,h1,h2,hk,h3,h4⟩
   · exact .inl h
   · refine .inr ⟨B,off,sp,cap,k,h1,h2,hk,Aln _ _ _ els s.2 h3,?_⟩
     cases tok with
     | own t=>
       have st:t < n:=by simpa using s.1
       obtain⟨m,c,q1,q2,q3⟩:=h4
       exact⟨m,c,by rw[(hg t st).2]; exact q1,q2,fun e=>by rw[(hg t st).1]; exact q3 e⟩
     | _=>exact h4
 | .fn f first cap,v,s,h=>by
   simp only[AV.inScope,Bool.and_eq_true] at s
   simp only[R] at h ⊢
   obtain⟨a1,a2,h1,h2,h3⟩:=h
   exact⟨a1,a2,h1,Fm first _ s.1 h2,Fm cap _ s.2 h3⟩
 | .iface t x,v,s,h=>by
   simp only[AV.inScope] at s
   simp only[R] at h ⊢
   obtain⟨u,h1,h2⟩:=h
   exact⟨u,h1,F9 x u s h2⟩
 | .agg cs,v,s,h=>by
   simp only[AV.inScope] at s
   simp only[R] at h ⊢
   obtain⟨a,h1,h2⟩:=h
   exact⟨a,h1,Fm cs _ s h2⟩
 | .tup cs,v,s,h=>by
   simp only[AV.inScope] at s
   simp only[R] at h ⊢
   obtain⟨a,h1,h2⟩:=h
   exact⟨a,h1,Fm cs _ s h2⟩
theorem Fm: ∀(x:List AV) (v:List Value),Am n x=true→RL F g w x v→RL F g' w x v
 | [],_,_,h=>(by have _:=hg;exact h)
 | x :: xs,v,s,h=>by
   simp only[Am,Bool.and_eq_true] at s
   simp only[RL] at h ⊢
   obtain⟨u,r,h1,h2,h3⟩:=h
   exact⟨u,r,h1,F9 x u s.1 h2,Fm xs r s.2 h3⟩
theorem Abz: ∀(B off:Nat) (x:List AV),Am n x=true→RM F g w B off x→RM F g' w B off x
 | _,_,[],_,h=>(by have _:=hg;exact h)
 | B,off,x :: xs,s,h=>by
   simp only[Am,Bool.and_eq_true] at s
   simp only[RM] at h ⊢
   obtain⟨⟨h0,v,h1,h2,h3⟩,h4⟩:=h
   exact⟨⟨h0,v,h1,h2,F9 x v s.1 h3⟩,Abz _ _ xs s.2 h4⟩
theorem Aln: ∀(B off k:Nat) (x:List (List AV)),A0 n x=true→RE F g w B off k x→RE F g' w B off k x
 | _,_,_,[],_,h=>(by have _:=hg;exact h)
 | B,off,k,x :: xs,s,h=>by
   simp only[A0,Bool.and_eq_true] at s
   simp only[RE] at h ⊢
   obtain⟨h1,h2,h3⟩:=h
   exact⟨h1,Abz _ _ x s.1 h2,Aln _ _ _ xs s.2 h3⟩
end
end
def AV.le (x y:AV):Prop:=∀F g w v,R F g w x v→R F g w y v
theorem AV.le_refl (x:AV):x.le x:=fun _ _ _ _ h=>h
inductive Dv where
 | tmp (t:Nat)
 | cell (t:Nat) (ag:Bool) (n:Nat)
def Hb (P:Program):List ResultVar→Option (List Dv)
 | []=>some []
 | .tmp t :: r=>(Hb P r).map (.tmp t :: ·)
 | .cell a ty :: r=>(O9 P ty).bind fun ag=>(P.info? ty).bind fun i=>(Hb P r).bind fun l=>if 0 < i.size∧(ag=true∨i.size=1) then some (.cell a ag i.size :: l) else none
def Bb (t:List AV) (H:List HB):Dv→Option AV
 | .tmp i=>some (t.getD i .undef)
 | .cell i ag n=>match t.getD i .undef with
   | .ptr b off=>match H[b]? with
     | some (.var cs)=>Bc ag n (cs.drop off)
     | _=>none
   | _=>none
def A8 (t:List AV) (H:List HB):List Dv→Option (List AV)
 | []=>some []
 | r :: rs=>(Bb t H r).bind fun v=>(A8 t H rs).map (v :: ·)
def A9 (t:List AV) (H:List HB) (rs:List Dv):Option AV:=
 (A8 t H rs).map fun vs=>match vs with | [v]=>v | vs=>.tup vs
section
variable {P:Program} {F:Addr→Prop} {g:Gh} {H:List HB} {w:World} {t:List AV} {a:Act}
def Tt (tmps:Array Value):ResultVar→Sem Value
 | .tmp t=>pure (tmps.getD t undef)
 | .cell p ty=>do loadVar ty (← asAddr (tmps.getD p undef))
theorem Ash (fn:Func) (tmps:Array Value):results fn tmps=(do let vs ← fn.results.mapM (Tt tmps); pure (if h:vs.size=1 then vs[0] else .tuple vs)):=by
 unfold results
 congr 1
theorem Avv (x:Addr):(asAddr (.pointer (some x))).run P w= .ok x w:=rfl
theorem Ady (hs:Sim P F g H w t a): ∀{l:List ResultVar} {rs:List Dv} {vs:List AV},Hb P l=some rs→A8 t H rs=some vs→
 ∃us:List Value,(l.mapM (Tt a.tmps)).run P w= .ok us w∧RL F g w vs us
 | [],rs,vs,hc,h=>by
   simp only[Hb,Option.some.injEq] at hc;subst hc
   simp only[A8,Option.some.injEq] at h;subst h
   exact⟨[],by simp,by simp[RL]⟩
 | .tmp i :: l,rs,vs,hc,h=>by
   simp only[Hb,Option.map_eq_some_iff] at hc
   obtain⟨rs',hc',rfl⟩:=hc
   simp only[A8,Bb,Option.bind_some,Option.map_eq_some_iff] at h
   obtain⟨vs',h',rfl⟩:=h
   obtain⟨us,e1,e2⟩:=Ady hs hc' h'
   refine⟨a.tmps.getD i undef :: us,?_,?_⟩
   · simp only[List.mapM_cons,Tt,Sem.run_bind,Sem.run_pure,Result.andThen_ok,e1]
   · simp only[RL]
     have:=Acs hs.2.1 i
     refine⟨_,us,rfl,?_,e2⟩
     simpa using this
 | .cell i ty :: l,rs,vs,hc,h=>by
   simp only[Hb,Option.bind_eq_some_iff] at hc
   obtain⟨ag,h1,inf,h2,rs',hc',hc⟩:=hc
   split at hc
   case isFalse=>cases hc
   simp only[Option.some.injEq] at hc;subst hc
   simp only[A8,Option.bind_eq_some_iff,Option.map_eq_some_iff] at h
   obtain⟨v,hv,vs',h',rfl⟩:=h
   obtain⟨us,e1,e2⟩:=Ady hs hc' h'
   simp only[Bb] at hv
   have hg:=Acs hs.2.1 i
   split at hv
   · rename_i b off hb
     rw[hb] at hg
     obtain⟨B,q1,q2,q3⟩:=E9 hg
     split at hv
     · rename_i cs hcs
       obtain⟨B',ws,e,p1,p2,p3,p4,p5⟩:=hs.1.var b cs hcs
       rw[q1] at p1;cases p1
       have hrl:=Oq p4 off
       obtain⟨k1,k2,k3⟩:=Aqs hv hrl
       have hcell: ∀(j:Nat) (u:Value),(ws.toList.drop off)[j]? =some u→w.cell? ⟨B,off+j,none⟩=some u:=fun j u hj=>by
        simp only[World.cell?,p3,Option.isSome_none,Bool.false_eq_true,if_false]
        rw[List.getElem?_drop] at hj
        simpa using hj
       obtain⟨l1,l2⟩:=Aou h1 h2 hcell
       rw[Dh hrl] at k1
       have hpt:a.tmps.getD i undef= .pointer (some ⟨B,off,none⟩):=by simpa using q3
       have load: ∃u,(loadVar ty ⟨B,off,none⟩).run P w= .ok u w∧R F g w v u:=by
        cases ag with
        | true=>exact⟨_,l1 rfl k1,k2 rfl⟩
        | false=>obtain⟨u,r,x1,x2⟩:=k3 rfl;exact⟨u,l2 rfl u r x1,x2⟩
       obtain⟨u,x1,x2⟩:=load
       refine⟨u :: us,?_,by simp only[RL]; exact⟨u,us,rfl,x2,e2⟩⟩
       simp only[List.mapM_cons,Tt,Sem.run_bind,hpt,Avv,Sem.run_pure,Result.andThen_ok,x1,e1]
     · cases hv
   · cases hv
theorem Vz (hs:Sim P F g H w t a) {fn:Func} {rs:List Dv} {v:AV} (hc:Hb P fn.results.toList=some rs) (h:A9 t H rs=some v): ∃u,(results fn a.tmps).run P w= .ok u w∧R F g w v u:=by
 simp only[A9,Option.map_eq_some_iff] at h
 obtain⟨vs,h1,h2⟩:=h
 obtain⟨us,e1,e2⟩:=Ady hs hc h1
 have hrun:(fn.results.mapM (Tt a.tmps)).run P w= .ok us.toArray w:=by
  rw[Array.mapM_eq_mapM_toList]
  simp only[Sem.run_map,e1,Result.andThen_ok]
 refine⟨if h:us.toArray.size=1 then us.toArray[0] else .tuple us.toArray,?_,?_⟩
 · rw[Ash]
   simp only[Sem.run_bind]
   rw[hrun]
   rfl
 · cases us with
   | nil=>
     have:vs=[]:=by cases vs with | nil=>rfl | cons _ _=>simp[RL] at e2
     subst this;subst h2
     simp only[R]; exact⟨#[],by simp,by simp[RL]⟩
   | cons u us=>
     cases vs with
     | nil=>simp[RL] at e2
     | cons x xs=>
       simp only[RL] at e2
       obtain⟨u',r',e,hx,hr⟩:=e2
       cases e
       cases us with
       | nil=>
         have:xs=[]:=by cases xs with | nil=>rfl | cons _ _=>simp[RL] at hr
         subst this;subst h2
         simpa using hx
       | cons u2 us=>
         have hxs: ∃y ys,xs=y :: ys:=by cases xs with | nil=>simp[RL] at hr | cons y ys=>exact⟨y,ys,rfl⟩
         obtain⟨y,ys,rfl⟩:=hxs
         subst h2
         simp only[R]
         refine⟨(u :: u2 :: us).toArray,by simp,?_⟩
         simp only[RL]
         simp only[RL] at hr
         exact⟨u,u2 :: us,rfl,hx,hr⟩
end
structure Ad (P:Program) (f:FuncId) (ac:AC) (ntmps:Nat) (rs:List Dv):Prop where
 en:Gu P f=true
 fn: ∃fn c,P.funcs[f]? =some fn∧fn.body=some c∧B4 P c=some ac∧fn.ntmps=ntmps∧Hb P fn.results.toList=some rs
def fnOk (P:Program) (f:FuncId):Option (AC × Nat × List Dv):=
 if Gu P f=true then (P.funcs[f]?).bind fun fn=>fn.body.bind fun c=>(B4 P c).bind fun ac=>(Hb P fn.results.toList).map fun rs=>(ac,fn.ntmps,rs) else none
theorem Ad.of {P:Program} {f:FuncId} {ac:AC} {n:Nat} {rs:List Dv} (h:fnOk P f=some (ac,n,rs)):Ad P f ac n rs:=by
 unfold fnOk at h
 split at h
 · rename_i he
   simp only[Option.bind_eq_some_iff,Option.map_eq_some_iff,Prod.mk.injEq] at h
   obtain⟨fn,h1,c,h2,ac',h3,rs',h4,rfl,rfl,rfl⟩:=h
   exact⟨he,fn,c,h1,h2,h3,rfl,h4⟩
 · cases h
def start (args:List AV) (n:Nat):List AV:=args++List.replicate (n - args.length) .undef
def As (n:Nat):List HB→Bool
 | []=>true
 | .var cs :: r=>Am n cs && As n r
 | .tvar _ cs :: r=>Am n cs && As n r
 | .tok _ _ _ :: r=>As n r
 | .mp _ :: r=>As n r
def fin (rs:List Dv) (res:AV) (H0:List HB) (x:AX) (t:List AV) (H:List HB):Prop:=
 (x= .normal∨x= .ret)∧(∃ v,A9 t H rs=some v∧v.strip=res)∧(∃ L,H=H0++L)∧res.inScope H0.length=true∧As H0.length H0=true
theorem Pb {n:Nat} : ∀{H:List HB},As n H=true→∀(b:Nat) cs,H[b]? =some (.var cs)→Am n cs=true
 | [],_,b,cs,h=>by simp at h
 | .var c :: r,s,b,cs,h=>by
   simp only[As,Bool.and_eq_true] at s
   cases b with
   | zero=>simp at h;subst h;exact s.1
   | succ b=>simp at h;exact Pb s.2 b cs h
 | .tvar _ c :: r,s,b,cs,h=>by
   simp only[As,Bool.and_eq_true] at s
   cases b with
   | zero=>simp at h
   | succ b=>simp at h;exact Pb s.2 b cs h
 | .tok _ _ _ :: r,s,b,cs,h=>by
   simp only[As] at s
   cases b with
   | zero=>simp at h
   | succ b=>simp at h;exact Pb s b cs h
 | .mp _ :: r,s,b,cs,h=>by
   simp only[As] at s
   cases b with
   | zero=>simp at h
   | succ b=>simp at h;exact Pb s b cs h
theorem Qt {n:Nat} : ∀{H:List HB},As n H=true→∀(b:Nat) e cs,H[b]? =some (.tvar e cs)→Am n cs=true
 | [],_,b,e,cs,h=>by simp at h
 | .var c :: r,s,b,e,cs,h=>by
   simp only[As,Bool.and_eq_true] at s
   cases b with
   | zero=>simp at h
   | succ b=>simp at h;exact Qt s.2 b e cs h
 | .tvar _ c :: r,s,b,e,cs,h=>by
   simp only[As,Bool.and_eq_true] at s
   cases b with
   | zero=>simp at h;rw[← h.2]; exact s.1
   | succ b=>simp at h;exact Qt s.2 b e cs h
 | .tok _ _ _ :: r,s,b,e,cs,h=>by
   simp only[As] at s
   cases b with
   | zero=>simp at h
   | succ b=>simp at h;exact Qt s b e cs h
 | .mp _ :: r,s,b,e,cs,h=>by
   simp only[As] at s
   cases b with
   | zero=>simp at h
   | succ b=>simp at h;exact Qt s b e cs h
theorem St.forget {F F':Addr→Prop} {g g':Gh} {H0 H L:List HB} {w w':World} (hs:St F' g' (H0++L) w') (hx:Ext F g H w F' g' (H0++L) w') (hl:H.length≤H0.length) (hsc:As H0.length H0=true) (hg0: ∀b,H.length≤b→g.blk b=none∧g.tk b=none):
 ∃g2,(∀ b,b < H0.length→g2.blk b=g'.blk b∧g2.tk b=g'.tk b)∧St F' g2 H0 w'∧Ext F g H w F' g2 H0 w':=by
 let g2:Gh:=⟨fun b=>if b < H0.length then g'.blk b else none,fun b=>if b < H0.length then g'.tk b else none⟩
 have e1: ∀b,b < H0.length→g2.blk b=g'.blk b∧g2.tk b=g'.tk b:=fun b hb=>⟨if_pos hb,if_pos hb⟩
 have e2: ∀b,¬b < H0.length→g2.blk b=none∧g2.tk b=none:=fun b hb=>⟨if_neg hb,if_neg hb⟩
 have e3: ∀b B,g2.blk b=some B→b < H0.length∧g'.blk b=some B:=fun b B h=>by
  by_cases hb:b < H0.length
  · exact⟨hb,by rw[← (e1 b hb).1]; exact h⟩
  · rw[(e2 b hb).1] at h;cases h
 refine⟨g2,e1,⟨hs.live,fun b hb=>e2 b (by omega),fun b b' B h h'=>hs.inj b b' B (e3 b B h).2 (e3 b' B h').2,fun b cs hb=>?_,fun t n k ty ht=>?_,hs.spots,fun b e cs hb=>?_,fun b ks hb=>?_⟩,⟨hx.sub,hx.keep,⟨fun b B h1 h2=>?_,fun t m c h=>?_⟩,hx.size,hx.frame,hx.new,fun b B hb h=>?_,hl,hx.io⟩⟩
 · have hbl:=(List.getElem?_eq_some_iff.1 hb).1
   obtain⟨B,vs,e,q1,q2,q3,q4,q5⟩:=hs.var b cs (by rw[List.getElem?_append_left hbl]; exact hb)
   exact⟨B,vs,e,(e1 b hbl).1.trans q1,(e1 b hbl).2.trans q2,q3,Fm e1 _ _ (Pb hsc b cs hb) q4,q5⟩
 · have hbl:=(List.getElem?_eq_some_iff.1 ht).1
   obtain⟨B,cap,vs,e,fr,q1,q2,q3⟩:=hs.tok t n k _ (by rw[List.getElem?_append_left hbl]; exact ht)
   exact⟨B,cap,vs,e,fr,(e1 t hbl).1.trans q1,(e1 t hbl).2.trans q2,q3⟩
 · have hbl:=(List.getElem?_eq_some_iff.1 hb).1
   obtain⟨B,vs,q1,q2,q3,q4,q5⟩:=hs.tvar b e cs (by rw[List.getElem?_append_left hbl]; exact hb)
   exact⟨B,vs,(e1 b hbl).1.trans q1,(e1 b hbl).2.trans q2,q3,Fm e1 _ _ (Qt hsc b e cs hb) q4,q5⟩
 · have hbl:=(List.getElem?_eq_some_iff.1 hb).1
   rcases hs.mp b _ (by rw[List.getElem?_append_left hbl]; exact hb) with⟨q0,q1,q2⟩ | ⟨B,es,ck,q1,q2,q3⟩
   · exact .inl ⟨q0,(e1 b hbl).1.trans q1,(e1 b hbl).2.trans q2⟩
   · exact .inr ⟨B,es,ck,(e1 b hbl).1.trans q1,(e1 b hbl).2.trans q2,q3⟩
 · have hb:b < H.length:=by
    rcases Nat.lt_or_ge b H.length with h | h
    · exact h
    · rw[(hg0 b h).1] at h1;cases h1
   obtain⟨p,q⟩:=hx.gh.blk b B h1 h2
   have:=e1 b (by omega)
   exact⟨this.1.trans p,this.2.trans q⟩
 · have hb:t < H.length:=by
    rcases Nat.lt_or_ge t H.length with h' | h'
    · exact h'
    · rw[(hg0 t h').2] at h;cases h
   obtain⟨m',c',p,q,r⟩:=hx.gh.tk t m c h
   have:=e1 t (by omega)
   exact⟨m',c',this.2.trans p,q,fun e=>⟨(r e).1,this.1.trans (r e).2⟩⟩
 · obtain⟨_,h'⟩:=e3 b B h
   exact hx.blks b B (by simp;omega) h'
theorem Ab.of {P:Program} {f:FuncId} {ac:AC} {n:Nat} {rs:List Dv} (hf:Ad P f ac n rs) {args:List AV} {H H':List HB} {res:AV} (hl:H.length≤H'.length) (h:AWp P ac (start args n) H (fin rs res H')):Ab P f args H res H':=by
 refine⟨hf.en,fun F g w vs hG hs hr=>?_⟩
 obtain⟨fn,c,h1,h2,h3,h4,h5⟩:=hf.fn
 refine calls_of_wp h1 h2 ?_
 have hlen:=Dh hr
 have htm:Tm F g w (start args n) { tmps:=vs.toArray++Array.replicate (fn.ntmps - vs.toArray.size) undef,defers:=[] }:=by
  show RL F g w _ _
  simp only[start,Array.toList_append,Array.toList_replicate,List.size_toArray,h4,hlen]
  exact E0 hr (Mg Dc _)
 refine wp_mono (h.det c h3 F g w _ ⟨hs,htm,rfl,hG⟩) ?_
 rintro e a' w' ⟨x,t',H2,F',g',rfl,⟨hx,⟨v,hv,hle⟩,⟨L,rfl⟩,hsc,hscH⟩,hs',hext⟩
 obtain⟨u,hu,hru⟩:=Vz hs' h5 hv
 obtain⟨g2,e1,e2,e3⟩:=St.forget hs'.1 hext hl hscH hs.beyond
 have hres:=F9 e1 res u hsc (hle ▸ Mu v u hru)
 rcases hx with rfl | rfl
 · exact⟨hs'.2.2.1,u,hu,u,F',g2,rfl,hres,e2,e3⟩
 · exact⟨hs'.2.2.1,u,hu,u,F',g2,rfl,hres,e2,e3⟩
theorem Ab.args {P:Program} {f:FuncId} {args args':List AV} {H H':List HB} {res:AV} (h:Ab P f args H res H') (he:Ay args'=args):Ab P f args' H res H':=
 ⟨h.1,fun F g w vs hG hs hr=>h.2 F g w vs hG hs (he ▸ Ju _ _ hr)⟩
theorem Ab.lift {P:Program} {f:FuncId} {args:List AV} {res:AV} (h:Ab P f args [] res []) (ha:Am 0 args=true) (hr:res.inScope 0=true) (H:List HB):Ab P f args H res H:=by
 refine⟨h.1,fun F g w vs hG hs hrl=>?_⟩
 let g0:Gh:=⟨fun _=>none,fun _=>none⟩
 have hs0:St F g0 [] w:=⟨hs.live,fun _ _=>⟨rfl,rfl⟩,fun _ _ _ h=>(by cases h),fun b cs h=>(by simp at h),fun t n k ty h=>(by simp at h),hs.spots,fun b e cs h=>(by simp at h),fun b ks h=>(by simp at h)⟩
 refine (h.2 F g0 w vs hG hs0 (Fm (n:=0) (fun b hb=>absurd hb (Nat.not_lt_zero b)) _ _ ha hrl)).mono ?_
 rintro e w' ⟨v,F',g',rfl,hv,hs',hx⟩
 have hfr: ∀B,B < w.heap.size→w'.heap[B]? =w.heap[B]?:=fun B hB=>hx.frame B hB fun b hb=>absurd hb (Nat.not_lt_zero b)
 have hK:Cr F g w F' g w':=⟨hx.sub,hx.keep,Gh.le_refl g⟩
 have hnew: ∀a,F' a→F a∨w.heap.size≤a.block:=fun a ha=>by
  rcases hx.new a ha with h | h | ⟨t,ht,_⟩
  · exact .inl h
  · exact .inr h
  · exact absurd ht (Nat.not_lt_zero t)
 refine⟨v,F',g,rfl,F9 (n:=0) (fun b hb=>absurd hb (Nat.not_lt_zero b)) _ _ hr hv,⟨hs'.live,hs.beyond,hs.inj,fun b cs hb=>?_,fun t n k ty ht=>?_,hs'.spots,fun b e cs hb=>?_,fun b ks hb=>?_⟩,⟨hx.sub,hx.keep,Gh.le_refl g,hx.size,fun B hB _=>hfr B hB,fun a ha=>(hnew a ha).imp id .inl,fun b B hb h=>.inl ⟨hb,h⟩,Nat.le_refl _,hx.io⟩⟩
 · obtain⟨B,us,e,q1,q2,q3,q4,q5⟩:=hs.var b cs hb
   exact⟨B,us,e,q1,q2,(hfr B (B9 q3)).trans q3,RL.mono hK _ _ q4,fun off h=>by
    rcases hnew _ h with h | h
    · exact q5 off h
    · have:=B9 q3;simp only at h;omega⟩
 · obtain⟨B,cap,us,e,fr,q1,q2,q3,q4,q5,q6⟩:=hs.tok t n k _ ht
   exact⟨B,cap,us,e,fr,q1,q2,(hfr B (B9 q3)).trans q3,q4,q5,fun off ho h=>by
    rcases hnew _ h with h | h
    · exact q6 off ho h
    · have:=B9 q3;simp only at h;omega⟩
 · obtain⟨B,us,q1,q2,q3,q4,q5⟩:=hs.tvar b e cs hb
   exact⟨B,us,q1,q2,(hfr B (B9 q3)).trans q3,RL.mono hK _ _ q4,fun off h=>by
    rcases hnew _ h with h | h
    · exact q5 off h
    · have:=B9 q3;simp only at h;omega⟩
 · rcases hs.mp b _ hb with q | ⟨B,es,ck,q1,q2,q3,q4⟩
   · exact .inl q
   · exact .inr ⟨B,es,ck,q1,q2,(hfr B (B9 q3)).trans q3,q4⟩
end Go.Proofs.YtemdkfnenjpioaaGreatDoor
