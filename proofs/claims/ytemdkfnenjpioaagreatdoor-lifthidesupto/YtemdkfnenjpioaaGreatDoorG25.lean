/- Joined: Nbk Bk2. -/
import Derived.Test.YtemdkfnenjpioaaGreatDoorG24
set_option linter.unusedSimpArgs false
set_option linter.unusedVariables false
set_option linter.unusedSectionVars false
set_option linter.all false
set_option maxHeartbeats 4000000
set_option maxRecDepth 10000
namespace Go.Proofs.YtemdkfnenjpioaaGreatDoor
open Go Go.RowKit Go.Shelf Go.Proofs Go.Sort
section
variable {F:Addr→Prop} {g:Gh} {H:List HB} {w w':World}
theorem Xg (hs:St F g H w) (hz:w.heap.size≤w'.heap.size) (hh: ∀X,X < w.heap.size→w'.heap[X]? =w.heap[X]?) (hio:w'.os=w.os∧w'.output=w.output) {F2:Addr→Prop} (hsub: ∀a,F a→F2 a)
 (hF2: ∀a,F2 a→F a∨(w.heap.size≤a.block∧a.block < w'.heap.size∧a.spot=Option.none)):St F2 g H w'∧Ext F g H w F2 g H w':=by
 have hcell: ∀a,F a→w'.cell? a=w.cell? a:=fun a ha=>Fs (hh a.block (hs.live a ha))
 have K:Cr F g w F2 g w':=⟨hsub,hcell,Gh.le_refl g⟩
 have hno: ∀B off,B < w.heap.size→¬F ⟨B,off,Option.none⟩→¬F2 ⟨B,off,Option.none⟩:=fun B off hB hn h=>by
  rcases hF2 _ h with h | h
  · exact hn h
  · have:=h.1;simp only at this;omega
 refine⟨⟨fun a h=>?_,hs.beyond,hs.inj,fun b cs h=>?_,fun t n k ty h=>?_,fun b off s h=>?_,fun b e cs h=>?_,fun b ks h=>?_⟩,⟨hsub,hcell,Gh.le_refl g,hz,fun X hX _=>hh X hX,fun a h=>?_,fun b X hb h=>.inl ⟨hb,h⟩,Nat.le_refl _,hio⟩⟩
 · rcases hF2 a h with h | h
   · exact Nat.lt_of_lt_of_le (hs.live a h) hz
   · exact h.2.1
 · obtain⟨B,vs,e,p1,p2,p3,p4,p5⟩:=hs.var b cs h
   have hB:=hs.blk_lt p1
   exact⟨B,vs,e,p1,p2,(hh B hB).trans p3,RL.mono K _ _ p4,fun off=>hno B off hB (p5 off)⟩
 · obtain⟨B,cap,vs,e,fr,p1,p2,p3,p4,p5,p6⟩:=hs.tok t n k ty h
   have hB:=hs.blk_lt p1
   exact⟨B,cap,vs,e,fr,p1,p2,(hh B hB).trans p3,p4,p5,fun off ho=>hno B off hB (p6 off ho)⟩
 · rcases hF2 _ h with h | h
   · exact hs.spots b off s h
   · exact absurd h.2.2 (by simp)
 · obtain⟨B,vs,p1,p2,p3,p4,p5⟩:=hs.tvar b e cs h
   have hB:=hs.blk_lt p1
   exact⟨B,vs,p1,p2,(hh B hB).trans p3,RL.mono K _ _ p4,fun off=>hno B off hB (p5 off)⟩
 · rcases hs.mp b ks h with h | ⟨B,es,ck,p1,p2,p3,p4⟩
   · exact .inl h
   · exact .inr ⟨B,es,ck,p1,p2,(hh B (hs.blk_lt p1)).trans p3,p4⟩
 · rcases hF2 a h with h | h
   · exact .inl h
   · exact .inr (.inl h.1)
theorem A00 (hs:St F g H w) {B cap:Nat} {zs:List Int} (hB:w.heap.size≤B) (hz:w.heap.size≤w'.heap.size) (hh: ∀X,X < w.heap.size→w'.heap[X]? =w.heap[X]?) (hio:w'.os=w.os∧w'.output=w.output)
 (hi:G6 w' B zs) (hcap:zs.length≤cap) (hm:zs.length≤A4) (hr: ∀z ∈ zs,IntKind.i64.has z):
 ∃F2,R F2 g w' (.sl .none (Cj zs)) (.slice (some ⟨B,0,none⟩) zs.length cap)∧St F2 g H w'∧Ext F g H w F2 g H w':=by
 have hBl:B < w'.heap.size:=by
  obtain⟨cur,e,h1,_⟩:=hi
  exact (Array.getElem?_eq_some_iff.1 h1).1
 refine⟨fun a=>F a∨(a.block=B∧a.spot=none),?_,Xg hs hz hh hio (fun a h=>.inl h) fun a h=>?_⟩
 · simp only[R]
   refine⟨by simpa using hm,.inr ⟨B,0,none,cap,1,by simp,by simpa using hcap,⟨by omega,by simp⟩,?_,trivial⟩⟩
   have key: ∀(l:List Int) (k:Nat),(∀ j z,l[j]? =some z→zs[k+j]? =some z)→RE (fun a=>F a∨(a.block=B∧a.spot=none)) g w' B k 1 (Cj l):=by
    intro l
    induction l with
    | nil=>intro k _;simp[Cj,RE]
    | cons z l ih=>
      intro k hk
      have h0:zs[k]? =some z:=by simpa using hk 0 z rfl
      have hmem:z ∈ zs:=List.mem_of_getElem? h0
      show RE _ _ _ _ _ _ ([.int .i64 z] :: Cj l)
      simp only[RE,RM]
      exact⟨rfl,⟨⟨rfl,.int .i64 z,.inr ⟨trivial,trivial⟩,hi.get h0,by simp only[R]; exact⟨trivial,hr z hmem⟩⟩,trivial⟩,ih (k+1) fun j y hy=>by
       have:=hk (j+1) y (by simpa using hy)
       rwa [show k+1+j=k+(j+1) by omega]⟩
   exact key zs 0 fun j z h=>by simpa using h
 · rcases h with h | h
   · exact .inl h
   · exact .inr ⟨by omega,by rw[h.1]; exact hBl,h.2⟩
end
end Go.Proofs.YtemdkfnenjpioaaGreatDoor
namespace Go.Proofs.YtemdkfnenjpioaaGreatDoor
open Go Go.RowKit Go.Shelf Go.Proofs Go.Sort
set_option maxHeartbeats 2000000 in
set_option maxRecDepth 100000 in
theorem Atb (a:Addr) (c:Nat) (w:World):Calls Tryz.prog 130 #[.slice (some a) 0 c] w fun e w'=>∃g cap',e= .returned (.slice (some ⟨g,0,none⟩) 0 cap')∧Below w.heap.size w w':=by
 have t23:=Tryz.underlying23
 have q23: ∀(w:World) (a:Option Addr) (n c n' c':Nat),(binOp .eql 23 (.slice a n c) (.slice none n' c')).run Tryz.prog w= .ok (.bool a.isNone) w:=fun w a n c n' c'=>Lib.run_eql_slice_nil w _ _ a n c n' c' t23
 have u23: ∀w,Sem.run Tryz.prog (underlying 23) w= .ok (TypeDesc.slice 28) w:=fun w=>Cv t23
 go_enter Tryz.func130,Tryz.ntmps130
 go_wp2_with (at_builtin;refine wpList_append_own _ rfl _ _ 23 rfl w.heap.size 28 Tryz.t28 (.agg #[.int .i64 0,.int .i64 0,.string ⟨#[]⟩,.slice none 0 0,.slice none 0 0,.slice none 0 0]) 6 104 t23 (by kernel_rfl) (by kernel_rfl) (by kernel_rfl) (by kernel_rfl) (by kernel_rfl) (by decide) _ _ _ rfl (World.ownsRow_made w #[] 0 (Nat.le_refl _) (Nat.zero_le _) rfl) a 0 c [] rfl rfl (by intro j u hj;simp at hj) (by intro u hu;cases hu) (by unfold maxLen;omega) (by omega) (by simp) ?_)
 intro v' w1 hown hgrow hnil
 have hB:Below w.heap.size w w1:=((Below.refl _ w).alloc (Nat.le_refl _) _).grown hgrow (by simp) (by intro k hk;simp[Value.ownBlock] at hk;omega)
 have hv: ∃g cap',v'= .slice (some ⟨g,0,none⟩) 0 cap':=by
  rcases hown.2 with⟨h,_⟩ | ⟨g,cap',_,h,_⟩
  · exact (hnil h).elim
  · exact⟨g,cap',h⟩
 obtain⟨g,cap',rfl⟩:=hv
 clear hown hgrow hnil
 go_wp2
 go_ret
 exact⟨g,cap',rfl,hB⟩
theorem Ayt (a:Addr) (c:Nat) (w:World):Calls Tryz.prog 83 #[.slice (some a) 0 c] w fun e w'=>∃g cap',e= .returned (.slice (some ⟨g,0,none⟩) 0 cap')∧Below w.heap.size w w':=by
 have hcl:=Atb a c w
 go_enter Tryz.func83,Tryz.ntmps83
 go_wp2_with (go_at_call 130;refine hcl.mono ?_)
 rintro e w1 ⟨g,cap',rfl,hbel⟩
 have hrv:Calls Tryz.prog 131 #[.slice (some ⟨g,0,none⟩) 0 cap'] w1 fun e w'=>e= .returned (.tuple #[])∧w'=w1:=AnyQ.slices_Reverse_empty Tryz.lays35 _ cap' w1
 clear hcl
 go_wp2_with (go_at_call 131;refine hrv.mono ?_)
 rintro e w2 ⟨rfl,rfl⟩
 clear hrv
 go_wp2
 go_ret
 exact⟨g,cap',rfl,hbel⟩
theorem Atv (w:World):Calls Tryz.prog 83 #[.slice none 0 0] w fun e w'=>e= .returned (.slice none 0 0)∧w'=w:=by
 have hcl:Calls Tryz.prog 130 #[.slice none 0 0] w fun e w'=>e= .returned (.slice none 0 0)∧w'=w:=AnyE.slices_Clone_nil Tryz.lays41 0 0 w
 have hrv:Calls Tryz.prog 131 #[.slice none 0 0] w fun e w'=>e= .returned (.tuple #[])∧w'=w:=AnyQ.slices_Reverse_empty Tryz.lays35 none 0 w
 go_enter Tryz.func83,Tryz.ntmps83
 go_wp2_with (first
  | (go_at_call 130;refine hcl.mono ?_;rintro e w1 ⟨rfl,rfl⟩)
  | (go_at_call 131;refine hrv.mono ?_;rintro e w1 ⟨rfl,rfl⟩))
 go_ret
 exact⟨rfl,rfl⟩
theorem re_of {F:Addr→Prop} {g:Gh} {w:World} {B:Nat} : ∀(l:List Cn) (ds:List V6) (i:Nat),ds.length=l.length→(∀ j c x,l[j]? =some c→ds[j]? =some x→RL F g w (Ai c) (Cs x)∧∀k u,(Cs x)[k]? =some u→F ⟨B,(i+j) * 6+k,none⟩∧w.cell? ⟨B,(i+j) * 6+k,none⟩=some u)→
 RE F g w B (i * 6) 6 (l.map Ai)
 | [],ds,i,hl,h=>by simp[RE]
 | c :: l,[],i,hl,h=>by simp at hl
 | c :: l,x :: ds,i,hl,h=>by
   obtain⟨h1,h2⟩:=h 0 c x rfl rfl
   simp only[List.map_cons,RE]
   refine⟨by simp,?_,?_⟩
   · rw[Ac] at h1 ⊢
     obtain⟨v0,_,e0,r0,v1,_,rfl,r1,v2,_,rfl,r2,v3,_,rfl,r3,v4,_,rfl,r4,v5,_,rfl,r5,rfl⟩:=h1
     simp only[Cs,List.cons.injEq,and_true] at e0
     obtain⟨rfl,rfl,rfl,rfl,rfl,rfl⟩:=e0
     have hk: ∀k u,(Cs x)[k]? =some u→F ⟨B,i * 6+k,none⟩∧w.cell? ⟨B,i * 6+k,none⟩=some u:=fun k u hu=>by simpa using h2 k u hu
     simp only[RM,and_true]
     exact⟨⟨rfl,_,(hk 0 _ rfl).1,(hk 0 _ rfl).2,r0⟩,⟨rfl,_,(hk 1 _ rfl).1,(hk 1 _ rfl).2,r1⟩,⟨rfl,_,(hk 2 _ rfl).1,(hk 2 _ rfl).2,r2⟩,⟨rfl,_,(hk 3 _ rfl).1,(hk 3 _ rfl).2,r3⟩,⟨rfl,_,(hk 4 _ rfl).1,(hk 4 _ rfl).2,r4⟩,⟨rfl,_,(hk 5 _ rfl).1,(hk 5 _ rfl).2,r5⟩⟩
   · have:=re_of l ds (i+1) (by simpa using hl) (fun j c' x' hc hx=>by
      have:=h (j+1) c' x' (by simpa using hc) (by simpa using hx)
      rwa [show i+(j+1)=i+1+j by omega] at this)
     rwa [show (i+1) * 6=i * 6+6 by omega] at this
theorem Agx (l:List Cn):Ab Tryz.prog Y3 [.sl .none (l.map Ai)] [] (.sl .none (l.reverse.map Ai)) []:=by
 refine⟨by kernel_rfl,fun F g w vs hG hs hr=>?_⟩
 simp only[RL] at hr
 obtain⟨v,_,rfl,hv,rfl⟩:=hr
 obtain⟨hmax,⟨h0,rfl,_⟩ | ⟨B,off,sp,cap,k,rfl,hcap,⟨hk0,hsp⟩,hre,_⟩⟩:=Ep hv
 · obtain rfl:l=[]:=by simpa using h0
   refine (Atv w).mono ?_
   rintro e w' ⟨rfl,rfl⟩
   exact⟨_,F,g,rfl,by simp only[R]; exact⟨by simp,.inl ⟨by simp,by trivial,by simp,by simp⟩⟩,hs,Ext.refl _ _ _ _⟩
 · by_cases hl:l=[]
   · subst hl
     refine (Ayt ⟨B,off,sp⟩ cap w).mono ?_
     rintro e w' ⟨gb,cap',rfl,hb⟩
     obtain⟨y1,y2⟩:=Xg hs hb.size hb.block ⟨hb.os,hb.output⟩ (F2:=F) (fun a h=>h) (fun a h=>.inl h)
     refine⟨_,F,g,rfl,?_,y1,y2⟩
     simp only[R]
     exact⟨by simp,.inr ⟨gb,0,none,cap',1,rfl,by simp,⟨by omega,by simp⟩,by simp[RE],trivial⟩⟩
   · obtain rfl:sp=none:=by
      rcases hsp with h | h
      · exact absurd (by simpa using h) hl
      · exact h
     obtain rfl:k=6:=by
      cases l with
      | nil=>exact absurd rfl hl
      | cons c l=>simp only[List.map_cons,RE] at hre;simpa using hre.1.symm
     obtain⟨ds,hd,hds⟩:=Ao0 l off hre
     have hmax':l.length≤1073741824:=by simpa[A4] using hmax
     have hbw:=Atz B off cap ds w (by omega) (fun i x hx j u hu=>by
      have hi:i < l.length:=by have:=(List.getElem?_eq_some_iff.1 hx).1;omega
      obtain⟨x',e1,_,e3⟩:=hds i l[i] (by simp[hi])
      rw[hx] at e1;cases e1
      exact e3 j u hu)
     have hlen:(l.map Ai).length=ds.length:=by rw[List.length_map,hd]
     rw[hlen]
     refine hbw.mono ?_
     rintro e w' ⟨gb,cap',rfl,z1,z2,z3,z4,z5,z6,z7,hH⟩
     obtain⟨y1,y2⟩:=Xg hs z7 z4 ⟨z5,z6⟩ (F2:=fun a=>F a∨(a.block=gb∧a.spot=none)) (fun a h=>.inl h) (fun a h=>by
      rcases h with h | h
      · exact .inl h
      · exact .inr ⟨by omega,by rw[h.1]; exact z2,h.2⟩)
     refine⟨_,_,g,rfl,?_,y1,y2⟩
     simp only[R]
     refine⟨by simpa using hmax,.inr ⟨gb,0,none,cap',6,by simp[hd],by simpa[hd] using z3,⟨by omega,by simp⟩,?_,trivial⟩⟩
     have:=re_of (F:=fun a=>F a∨(a.block=gb∧a.spot=none)) (g:=g) (w:=w') (B:=gb) l.reverse ds.reverse 0 (by simp[hd]) (fun j c x hc hx=>by
      have hjl:j < l.length:=by simpa using (List.getElem?_eq_some_iff.1 hc).1
      have hc2:l[l.length - 1 - j]? =some c:=by rwa [List.getElem?_reverse hjl] at hc
      have hx2:ds[l.length - 1 - j]? =some x:=by
       rw[List.getElem?_reverse (by omega),hd] at hx;exact hx
      obtain⟨x',e1,e2,e3⟩:=hds _ c hc2
      rw[hx2] at e1;cases e1
      refine⟨RL.mono ⟨y2.sub,y2.keep,Gh.le_refl g⟩ _ _ e2,fun k u hu=>⟨.inr ⟨rfl,rfl⟩,?_⟩⟩
      have hi:j < ds.reverse.toArray.size:=by simp;omega
      have hget:ds.reverse.toArray[j]! =x:=by
       rw[getElem!_pos _ j hi]
       have:=(List.getElem?_eq_some_iff.1 hx).2
       simpa using this
      have:=HoldsK.cells (enc:=Cs) (k:=6) hH Ta hi k u (by rw[hget]; exact hu)
      rw[Addr.add_lit] at this
      simpa using this)
     simpa using this
end Go.Proofs.YtemdkfnenjpioaaGreatDoor
