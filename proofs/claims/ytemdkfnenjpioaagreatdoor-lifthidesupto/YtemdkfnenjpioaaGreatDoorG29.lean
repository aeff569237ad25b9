/- Joined: T13 T14 Lf Lg Aw0. -/
import Derived.Test.YtemdkfnenjpioaaGreatDoorG25
import Derived.Test.YtemdkfnenjpioaaGreatDoorG28
import Derived.Lib.SlKeysI
import Derived.Maps.RangeWalk
import Derived.Maps.AppendAt
import Derived.OwnWalk
import Derived.WalkKit
import Derived.LoopTactic
import Derived.Deep.LoopGhost
import Derived.Laws.MakeOwn
import Derived.Test.YtemdkfnenjpioaaGreatDoorG27
import Derived.Test.YtemdkfnenjpioaaGreatDoorG26
import Derived.WalkLawsBesides
set_option linter.unusedSimpArgs false
set_option linter.unusedVariables false
set_option linter.unusedSectionVars false
set_option linter.all false
set_option maxHeartbeats 4000000
set_option maxRecDepth 10000
namespace Go.Proofs.YtemdkfnenjpioaaGreatDoor
open Go Go.RowKit Go.Shelf Go.Proofs Go.Sort Go.Maps
open Go.WideElems (Fit rd rg rg_of)
def Vx:Value→Option (DataW Unit × List MemPlace):=fun _=>some (.lit (.bool true),[])
theorem Aa5: ∀(n:Nat) (l:List Nat),l.Nodup→(∀ x ∈ l,x < n)→l.length≤n
 | 0,l,_,h=>by
   cases l with
   | nil=>simp
   | cons x l=>exact absurd (h x (by simp)) (by omega)
 | n+1,l,hn,h=>by
   have h1:=Aa5 n (l.erase n) (hn.erase n) (fun x hx=>by
    have h2:=(hn.mem_erase_iff).1 hx
    have h3:=h x h2.2
    have h4:=h2.1
    omega)
   have h2:=List.length_erase (a:=n) (l:=l)
   split at h2<;>omega
theorem Hj.nodup {es:Array MapEntry} {ck:Nat} {ks:List Nat} (h:Hj es ck ks):ks.Nodup:=by
 have:=h.stamped.2.2
 rw[h.key] at this
 exact (List.pairwise_map.1 this).imp fun hne e=>hne (by rw[e])
theorem Hj.length {es:Array MapEntry} {ck:Nat} {ks:List Nat} (h:Hj es ck ks):es.size=ks.length:=by
 have:=congrArg List.length h.key
 simpa using this
theorem Hj.bound {es:Array MapEntry} {ck:Nat} {ks:List Nat} (h:Hj es ck ks):ks.length≤1048576:=by
 have:=Aa5 Gb ks h.nodup h.lt
 simpa[Gb] using this
theorem key_wf {n:Nat} (h:n < Gb):(Lit.int .i64 n).wf=true:=by
 have:n < 1048576:=by simpa[Gb] using h
 simp[Lit.wf,IntKind.has,IntKind.min,IntKind.max,IntKind.signed,IntKind.bits]
 omega
theorem wf_has {x:Int} (h:(Lit.int .i64 x).wf=true):IntKind.i64.has x:=by
 simp only[Lit.wf,Bool.and_eq_true,decide_eq_true_eq] at h
 exact h
theorem Hj.owns {es:Array MapEntry} {ck:Nat} {ks:List Nat} {B:Nat} {w:World} (h:Hj es ck ks) (hb:w.heap[B]? =some (.map es ck)):
 ∃D:DataW Unit,w.ownsMap Tryz.prog 3 Vx B ks.length D∧(∀ x:Int,has D (.int .i64 x)=true↔x ∈ ks.map fun n:Nat=>(n:Int))∧Maps.size D=ks.length:=by
 have hrd: ∀x ∈ es.toList,∃n:Nat,n ∈ ks∧x.key= .int .i64 n∧rd Tryz.prog 3 Vx x=some (.int .i64 n,.lit (.bool true)):=fun x hx=>by
  have:x.key ∈ ks.map (fun n:Nat=>Value.int .i64 n):=by rw[← h.key]; exact List.mem_map.2 ⟨x,hx,rfl⟩
  obtain⟨n,hn,e⟩:=List.mem_map.1 this
  exact⟨n,hn,e.symm,by unfold WideElems.rd;rw[← e,keyOf_int_mk Tryz.underlying3 (key_wf (h.lt n hn))]; rfl⟩
 refine⟨_,⟨es,ck,hb,⟨by rw[h.length]; have:=h.bound;simp only[maxLen]; omega,h.stamped,fun x hx=>⟨_,(hrd x hx).choose_spec.2.2⟩⟩,by rw[h.length]; exact Nat.le_refl _,rfl⟩,fun x=>?_,?_⟩
 · rw[has_eq,List.any_eq_true]
   constructor
   · rintro⟨p,hp,hs⟩
     obtain⟨y,hy,rfl⟩:=List.mem_map.1 (mem_sorted.1 hp)
     obtain⟨n,hn,_,e⟩:=hrd y hy
     simp only[rg,e,Option.getD_some,Lit.sameKey,beq_iff_eq,Bool.and_eq_true] at hs
     exact List.mem_map.2 ⟨n,hn,by simpa using hs⟩
   · intro hx
     obtain⟨n,hn,rfl⟩:=List.mem_map.1 hx
     have:Value.int .i64 n ∈ es.toList.map (·.key):=by rw[h.key]; exact List.mem_map.2 ⟨n,hn,rfl⟩
     obtain⟨y,hy,e1⟩:=List.mem_map.1 this
     obtain⟨m,hm,e2,e3⟩:=hrd y hy
     refine⟨_,mem_sorted.2 (List.mem_map.2 ⟨y,hy,rfl⟩),?_⟩
     rw[e2] at e1
     have:(m:Int)=n:=by simpa using e1
     simp[rg,e3,Lit.sameKey,this]
 · show (List.foldr DataW.insert [] _).length=_
   rw[length_sorted,List.length_map,Array.length_toList,h.length]
def F7 (ks:List Nat):List Int:=Do (ks.map fun n:Nat=>(n:Int))
theorem Al8 (ks:List Nat):(F7 ks).length=ks.length:=by simp[F7,Jl]
theorem Ap1 {ks:List Nat} {z:Int} (h:z ∈ F7 ks): ∃n ∈ ks,(n:Int)=z:=by
 have:=Aat h
 exact List.mem_map.1 this
set_option maxRecDepth 100000 in
theorem Aua (w:World) (B:Nat) (es:Array MapEntry) (ck:Nat) (ks:List Nat) (hb:w.heap[B]? =some (.map es ck)) (hok:Hj es ck ks):
 Calls Tryz.prog 197 #[.map (some B)] w fun e w'=>∃v,e= .returned v∧(w.heap.size≤w'.heap.size∧(∀ X,X < w.heap.size→w'.heap[X]? =w.heap[X]?)∧w'.os=w.os∧w'.output=w.output)∧
  (v= .slice none 0 0∧F7 ks=[]∨∃g cap,v= .slice (some ⟨g,0,none⟩) (F7 ks).length cap∧w.heap.size≤g∧(F7 ks).length≤cap∧G6 w' g (F7 ks)):=by
 obtain⟨D0,hown,hhas,hsz⟩:=hok.owns hb
 have law3:=int_keyed Tryz.underlying3
 have hbd:=hok.bound
 have hnd:=hok.nodup
 have hbl:=hown.lt
 have hcells:(Value.int .i64 0).cells.size=1:=rfl
 clear hb hok
 go_enter Tryz.func197,Tryz.ntmps197
 go_wp2_with (first
  | (at_range;refine wpList_range_own _ rfl _ 209 rfl 3 4 law3 Tryz.underlying209 _ B ks.length D0 rfl hown ?_;intro w0 hrg0 hg0 hs0)
  | go_in)
 go_frame
 go_loopw [3] (fun v wr=>∃(left:Lit→Bool) (cnt:Nat) (ss:List Int),wr.ranges Tryz.prog 3 Vx B w.heap.size ks.length D0 left cnt∧ss.length+cnt≤ks.length∧
  wr.ownsRow (w.heap.size+1) 3 1 v ss.length (ss.map encZ)∧CollectedI D0 left ss∧Below w.heap.size w wr∧(∀ z ∈ ss,IntKind.i64.has z))
  (fun _ wr=>wr.rangeLeft B w.heap.size)
 case atStart=>
  exact⟨_,_,[],hrg0,by simp[hsz],World.ownsRow_nil _ _ _ _,CollectedI.start D0,(Below.refl _ _).grown hg0 (Nat.le_refl _) (fun j hj=>by cases hj),by simp⟩
 case round=>
  obtain⟨left,cnt,ss,hrg,hcs,hrow,hC,hnx,hhz⟩:=hrel
  clear hg0 hs0 hrg0
  have hrl:=hrg.lt
  go_wp2_with (first
   | (at_next;refine wpList_next_ranges _ rfl _ rfl 3 law3 Vx (Value.int .i64) (fun c:Value=>c) (fun key kl hk=>by obtain⟨x,hx,_⟩:=Maps.keyOf_i64 Tryz.underlying3 hk;exact⟨x,hx⟩) (fun v y hv=>⟨v,rfl⟩) B w.heap.size ks.length _ _ _ rfl hrg ?_ ?_)
   | go_in)
  · intro hc0 hl0
    have hperm:ss.Perm (ks.map fun n:Nat=>(n:Int)):=by
     refine (List.perm_ext_iff_of_nodup hC.1 ?_).2 fun x=>?_
     · exact List.pairwise_map.2 (hnd.imp fun hne e=>hne (by omega))
     · rw[hC.2 x,hl0,← hhas x]; simp
    have hss:Do ss=F7 ks:=mergeSort_of_perm_i hperm
    have hlen:(F7 ks).length=ss.length:=by rw[← hss,Jl]
    have hpair:=hrow.2
    have A:Aside (ss.length+cnt≤ks.length∧Do ss=F7 ks∧(F7 ks).length=ss.length∧Below w.heap.size w wr):=⟨hcs,hss,hlen,hnx⟩
    clear hcs hss hlen hnx hperm hC hl0 hc0 hrow hrg hhas hsz hown hnd hbl hrl
    rcases hpair with⟨rfl,hn0⟩ | ⟨gb,cap,cur,rfl,hbase,hbk,h1,h2,h3,h4⟩
    · have A2:Aside (ss.length=0):=hn0
      clear hn0
      go_wp2_with (go_at_call 193;refine (Aio _ none 0).mono ?_;rintro e w5 ⟨rfl,rfl⟩)
      go_ret
      obtain⟨a1,a2,a3,a4⟩:=A.out
      have:=A2.out
      refine⟨_,rfl,⟨a4.size,a4.block,a4.os,a4.output⟩,.inl ⟨rfl,?_⟩⟩
      exact List.eq_nil_of_length_eq_zero (by omega)
    · have hI:G6 wr gb ss:=⟨cur,3,hbk,by simpa using h4⟩
      have hsort:=Ajc gb cap ss wr hI (by have:=A.out.1;omega)
      have A2:Aside (w.heap.size+1≤gb∧ss.length≤cap):=⟨hbase,h1⟩
      clear hI hbk h1 h2 h3 h4 hbase
      go_wp2_with (go_at_call 193;refine hsort.mono ?_;rintro e w5 ⟨rfl,hz⟩)
      go_ret
      obtain⟨a1,a2,a3,a4⟩:=A.out
      obtain⟨b1,b2⟩:=A2.out
      rw[a2] at hz
      refine⟨_,rfl,⟨Nat.le_trans a4.size hz.1.size,fun X hX=>?_,hz.1.io.1.trans a4.os,hz.1.io.2.trans a4.output⟩,.inr ⟨gb,cap,by rw[a3]; rfl,by omega,by omega,hz.2⟩⟩
      exact (hz.1.heap X (Nat.lt_of_lt_of_le hX a4.size) (by omega)).trans (a4.block X hX)
  · intro x c kl yd yp w2 cnt2 hkey hlk hv hat hrg2 hlt hg2 hs2 hen
    obtain⟨x',ex,rfl,hwf⟩:=Maps.keyOf_i64 Tryz.underlying3 hkey
    obtain rfl:x=x':=encZ_inj ex
    have hrow2:=hrow.kept hg2 (Or.inr (row_ne_iter hrow hrg).symm)
    have hhx:IntKind.i64.has x:=wf_has hwf
    have h2l:=hrg2.lt
    clear hs2
    go_wp2_with (first
     | (at_builtin;refine wpList_append_own _ rfl _ _ 186 rfl (w.heap.size+1) 3 Tryz.t3 (.int .i64 0) 1 8 Tryz.underlying186 (by kernel_rfl) rfl rfl rfl hcells (by decide) _ _ _ rfl (hrow2.alloc _) ⟨w2.heap.size,0,none⟩ 1 1 [encZ x] rfl rfl (cell_one_new _ _ _) (by simp[Value.oneCell',encZ]) (by simp only[maxLen]; omega) (by omega) (by simp;omega) ?_;intro v' w3 hown' hg3 hnil3;go_frame)
     | go_in)
    have hrg3:=(hrg2.alloc _).kept hg3 (row_ne_low hrow2 (by omega)) (row_ne_iter hrow2 hrg2)
    go_roundw
    case rel=>
     refine⟨_,cnt2,ss++[x],hrg3,by simp;omega,by simpa using hown',hC.step hlk hat,?_,fun z hz=>?_⟩
     · exact ((hnx.grown hg2 hnx.size (fun j hj=>by cases hj;exact Nat.le_refl _)).alloc (by have:=hnx.size;have:=hg2.size;omega) _).grown hg3 (by have:=hnx.size;have:=hg2.size;simp;omega) (fun j hj=>by have:=(hrow2.lt j hj).1;omega)
     · rcases List.mem_append.1 hz with h | h
       · exact hhz z h
       · rw[List.mem_singleton.1 h]; exact hhx
    case measure=>rw[hrg3.left_eq,hrg.left_eq]; exact hlt
theorem Aip (H:List HB) (i:Nat) (ks:List Nat) (hi:H[i]? =some (.mp ks)):Ab Tryz.prog Zk [.mapv i] H (.sl .none (Cj (F7 ks))) H:=by
 refine⟨by kernel_rfl,fun F g w vs hG hs hr=>?_⟩
 simp only[RL] at hr
 obtain⟨v,_,rfl,hv,rfl⟩:=hr
 simp only[R] at hv
 obtain⟨B,h1,h2,rfl⟩:=hv
 rcases hs.mp i ks hi with⟨_,h,_⟩ | ⟨B',es,ck,p1,p2,p3,p4⟩
 · rw[h1] at h;cases h
 rw[h1] at p1;cases p1
 refine (Aua w B es ck ks p3 p4).mono ?_
 rintro e w' ⟨v,rfl,⟨z1,z2,z3⟩,hv⟩
 have hb:=p4.bound
 rcases hv with⟨rfl,h0⟩ | ⟨gb,cap,rfl,b1,b2,b3⟩
 · obtain⟨y1,y2⟩:=Xg hs z1 z2 z3 (F2:=F) (fun a h=>h) (fun a h=>.inl h)
   refine⟨_,F,g,rfl,?_,y1,y2⟩
   rw[h0]
   simp only[R]
   exact⟨by simp[Cj],.inl ⟨by simp[Cj],by trivial,by simp,by simp⟩⟩
 · obtain⟨F2,y1,y2,y3⟩:=A00 hs b1 z1 z2 z3 b3 b2 (by rw[Al8]; unfold A4;omega) (fun z hz=>by
    obtain⟨n,hn,rfl⟩:=Ap1 hz
    exact wf_has (key_wf (p4.lt n hn)))
   exact⟨_,F2,g,rfl,y1,y2,y3⟩
end Go.Proofs.YtemdkfnenjpioaaGreatDoor
namespace Go.Proofs.YtemdkfnenjpioaaGreatDoor
open Go
attribute [local simp] Ar aev Ax A7 start AV.cells AV.undef Bc Be Bh Bl Bj AV.isCell Bf A1 Bi
attribute [local simp] fin A9 A8 Bb AV.strip Ay A5 AV.inScope Am A0 As
attribute [local simp] Ca Cg
attribute [-simp] Int.not_lt Int.not_le
theorem Amm {σ :Type} (f:Cn→Int→Int→σ→σ) (g:Int→Int→Int→σ→σ) (I: σ→Prop) (hf: ∀c a b x,0≤a→0≤b→I x→I (f c a b x)) (hg: ∀n a b x,0≤n→n≤20000→0≤a→0≤b→I x→I (g n a b x)):
 ∀(h:Nat) (z:Te) (c t:Int) (x: σ),tOk h z→0≤c→0≤t→c+h≤1000→t+h≤1000→I x→I (wkS f g z c t x)
 | 0,_,_,_,_,ht,_,_,_,_,_=>ht.elim
 | h+1,z,c,t,x,ht,h0,h1,hc,hd,hI=>by
   have hins: ∀i,i < z.l.length→_:=fun i hi=>Zd ht hi h0 h1 (by omega) (by omega)
   obtain⟨hn1,hn2,hn3⟩:=Tw ht.1
   rw[wkS_eq f g z c t x _ _ _ rfl rfl rfl]
   have loop: ∀(n k:Nat) (y: σ),k+n=z.l.length→I y→I (Iz f g z.op (z.l.drop k) k c t y):=by
    intro n
    induction n with
    | zero=>intro k y hk hy;rw[List.drop_eq_nil_of_le (by omega),Iz]; exact hy
    | succ n ih=>
      intro k y hk hy
      have hlt:k < z.l.length:=by omega
      obtain⟨i1,i2,i3,i4⟩:=hins k hlt
      rw[List.drop_eq_getElem_cons hlt,Iz]
      exact ih (k+1) _ (by omega) (Amm f g I hf hg h z.l[k] _ _ y (ht.2 _ (List.getElem_mem _)) i1 i3 (by omega) (by omega) hy)
   refine loop z.l.length 0 _ (by omega) ?_
   have q1:I (if hcT z.op=true then f z.con c t x else x):=by split;exact hf _ _ _ _ h0 h1 hI;exact hI
   generalize (if hcT z.op=true then f z.con c t x else x)=x1 at q1 ⊢
   have q2:I (if z.op=8 then f z.to c t x1 else x1):=by split;exact hf _ _ _ _ h0 h1 q1;exact q1
   generalize (if z.op=8 then f z.to c t x1 else x1)=x2 at q2 ⊢
   split
   · rename_i ho;exact hg _ _ _ _ (hn3 ho).1 (hn3 ho).2 h0 h1 q2
   · exact q2
def okK (ks:List Nat):Prop:=ks.Nodup∧∀n ∈ ks,n < 20001
theorem Aj5 {n:Nat} {ks:List Nat} (h:okK ks) (hn:n < 20001):okK (Iu n ks):=by
 unfold Iu
 split
 · exact h
 · rename_i hni
   refine⟨List.nodup_append.2 ⟨h.1,by simp,fun a ha b hb=>?_⟩,fun m hm=>?_⟩
   · rw[List.mem_singleton.1 hb]
     exact fun e=>hni (e ▸ ha)
   · rcases List.mem_append.1 hm with h' | h'
     · exact h.2 m h'
     · rw[List.mem_singleton.1 h']; exact hn
theorem Apm (a:Int) (h0:0≤a): ∀(l:List Int) (ks:List Nat),(∀ z ∈ l,0≤z∧z≤20000)→okK ks→okK (Lw a l ks)
 | [],ks,_,h=>h
 | z :: l,ks,hl,h=>by
   rw[Lw]
   refine Apm a h0 l _ (fun y hy=>hl y (by simp[hy])) ?_
   split
   · have:=hl z (by simp)
     exact Aj5 h (by omega)
   · exact h
theorem frL_bnd (c:Cn): ∀z ∈ (frL c).1,0≤z∧z≤20000:=by
 by_cases hc:Ap c≤1000000000000
 · exact (Al1 c hc).2.1
 · intro z hz
   rw[frL,dif_neg hc] at hz
   simp at hz
theorem Alo:okK []:=⟨List.nodup_nil,by simp⟩
theorem free_inv (t:Te) (ht:tOk 400 t):okK (wkS fwC fwV t 0 0 ([],[])).1∧okK (wkS fwC fwV t 0 0 ([],[])).2:=
 Amm fwC fwV (fun x=>okK x.1∧okK x.2) (fun c a b x ha _ h=>⟨Apm a ha _ _ (frL_bnd c) h.1,h.2⟩)
  (fun n a b x hn0 hn1 _ hb h=>by
   unfold fwV
   split
   · exact⟨h.1,Aj5 h.2 (by omega)⟩
   · exact h) 400 t 0 0 ([],[]) ht (by omega) (by omega) (by omega) (by omega) ⟨Alo,Alo⟩
theorem Akv {ks:List Nat} (h:okK ks):(∀ z ∈ F7 ks,0≤z∧z≤20000)∧(F7 ks).length≤20001:=by
 refine⟨fun z hz=>?_,by rw[Al8]; exact Aa5 _ _ h.1 h.2⟩
 obtain⟨n,hn,rfl⟩:=Ap1 hz
 have:=h.2 n hn
 omega
theorem Asy (t:Te) (ht:tOk 400 t): ∃p:List Int × List Int,Ab Tryz.prog Abd [Ae t] [] (.tup [.sl .none (Cj p.1),.sl .none (Cj p.2)]) []∧(∀ z ∈ p.1,0≤z∧z≤20000)∧(∀ z ∈ p.2,0≤z∧z≤20000)∧p.1.length≤20001∧p.2.length≤20001:=by
 have hw:=Af0 (free_Wlk t) 400 t 0 0 ([],[]) ht (by omega) (by omega) (by omega) (by omega)
 have hk:=free_inv t ht
 generalize wkS fwC fwV t 0 0 ([],[])=x at hw hk
 obtain⟨k1,k2⟩:=x
 obtain⟨o1,o2⟩:=Akv hk.1
 obtain⟨o3,o4⟩:=Akv hk.2
 refine⟨(F7 k1,F7 k2),?_,o1,o3,o2,o4⟩
 clear o1 o2 o3 o4 hk
 have h1:=Aip (fwS t (k1,k2)) 1 k1 rfl
 have h2:=Aip (fwS t (k1,k2)) 2 k2 rfl
 refine Ab.go mixed Av5 (by simp) fun hfit Q hQ=>?_
 clear hfit
 simp -implicitDefEqProofs[Am1,Ae,Aj t]
 refine Br (r:=.tup []) (by simpa[Ae,Aj t,uAV,fwS] using hw) ?_
 clear hw
 simp -implicitDefEqProofs 
 refine Iy (fun _=>true) [1,3] (by rfl) ?_
 simp -implicitDefEqProofs 
 refine Hl (first:=[]) (cap:=[]) (by simpa[fwS,Aj t] using h1) (fun b cs _ hb=>hb) ?_
 simp -implicitDefEqProofs 
 refine Hl (first:=[]) (cap:=[]) (by simpa[fwS,Aj t] using h2) (fun b cs _ hb=>hb) ?_
 simp -implicitDefEqProofs 
 refine hQ _ _ _ ?_
 simp -implicitDefEqProofs 
set_option maxHeartbeats 1600000 in
theorem Agd (t:Te) (d1 d2:Int) (hb:teB t) (h0:0≤d1) (h1:d1≤20000) (h2:0≤d2) (h3:d2≤20000): ∃p,Ab Tryz.prog Ja [Ae t,.int .i64 d1,.int .i64 d2] [] (teE p) []∧(p.2=0→tOk 400 p.1)∧(p.2≠0→p.1=Bv):=by
 obtain⟨b,hv,hok⟩:=Sn t hb
 cases b with
 | false=>
   refine⟨(Bv,1),?_,by simp,by simp⟩
   refine Ab.go mixed Apr (by simp) fun hfit Q hQ=>?_
   clear hfit
   simp -implicitDefEqProofs[Ac7,Ae,Aj t]
   refine Ah (hv) (by simp) (by simp) (by simp[Ag,Aa,Ac,Al,Af,Kd.l,Ae,Aj]) ?_
   simp -implicitDefEqProofs 
   refine hQ _ _ _ ?_
   simp -implicitDefEqProofs[teE,Ae,D9]
 | true=>
 obtain⟨⟨l1,l2⟩,hfr,b1,b2,n1,n2⟩:=Asy t (hok rfl)
 simp only at hfr b1 b2 n1 n2
 have hi1:=Ajs d1
 have hi2:=Ajs d2
 have e1:(decide (-20000≤d1) && decide (d1≤20000))=true:=by simp;omega
 have e2:(decide (-20000≤d2) && decide (d2≤20000))=true:=by simp;omega
 rw[e1] at hi1
 rw[e2] at hi2
 clear e1 e2
 have hch:=Ab6 Pr Oa [.ptr 2 0] [.ptr 3 0] [.var (Bm t),.var Cw,.var [.int .i64 d1],.var [.int .i64 d2]] (fun c a _=>shS c d1 a) (fun n _ b=>(Hn (if b≤n then IntKind.i64.wrap (n+d2) else n),0))
  (Ask d1 d2 h0 h1 _ 2 3 rfl rfl (fun b hb=>match b,hb with
   | 0,_=>⟨_,rfl⟩
   | 1,_=>⟨_,rfl⟩
   | 2,_=>⟨_,rfl⟩
   | 3,_=>⟨_,rfl⟩) (fun n _=>by simp[As,Am,A0,AV.inScope,Cw,Aj t])) 400 t 0 0 (hok rfl) (by omega) (by omega) (by omega) (by omega)
 have hcb:=Aan (fun c a _=>shS c d1 a) (fun n _ b=>(Hn (if b≤n then IntKind.i64.wrap (n+d2) else n),0)) (fun c a b=>by have:=@Sd c d1 a;omega) (fun n _ _=>All _) t 0 0
 generalize chT (fun c a _=>shS c d1 a) (fun n _ b=>(Hn (if b≤n then IntKind.i64.wrap (n+d2) else n),0)) t 0 0=p at hch hcb
 obtain⟨y,e⟩:=p
 obtain⟨q,hfin,hq⟩:=Aif y e hcb
 refine⟨q,?_,hq⟩
 clear hq hcb
 obtain⟨z,g⟩:=q
 have hsh:=Ay1 d1 d2 [.var (Bm t),.var Cw] (fun n _=>by simp[As,Am,A0,AV.inScope,Cw,Aj t])
 have g1: ∀h:0 < (Cj l1).length,(Cj l1)[0]'h=[.int .i64 (l1.headD 0)]:=fun h=>by
  cases l1 with
  | nil=>simp[Cj] at h
  | cons x l=>rfl
 have g2: ∀h:0 < (Cj l2).length,(Cj l2)[0]'h=[.int .i64 (l2.headD 0)]:=fun h=>by
  cases l2 with
  | nil=>simp[Cj] at h
  | cons x l=>rfl
 have c1:0≤l1.headD 0∧l1.headD 0≤20000:=by
  cases l1 with
  | nil=>simp
  | cons x l=>exact b1 x (by simp)
 have c2:0≤l2.headD 0∧l2.headD 0≤20000:=by
  cases l2 with
  | nil=>simp
  | cons x l=>exact b2 x (by simp)
 generalize l1.headD 0=x1 at g1 c1
 generalize l2.headD 0=x2 at g2 c2
 have w1:=Ba (n:=x1+d1) (by omega) (by omega)
 have w2:=Ba (n:=x2+d2) (by omega) (by omega)
 have v1: ¬(x1+d1 < 0):=by omega
 have v2: ¬(x2+d2 < 0):=by omega
 clear c1 c2
 clear b1 b2
 refine Ab.go mixed Apr (by simp) fun hfit Q hQ=>?_
 clear hfit
 simp -implicitDefEqProofs[-A3,Ac7,Ae,Aj t]
 rw[A3]
 simp -implicitDefEqProofs[-A3]
 rw[A3]
 rw[A3]
 simp -implicitDefEqProofs[-A3]
 refine Ah (hv) (by simp) (by simp) (by simp[Ag,Aa,Ac,Al,Af,Kd.l,Ae,Aj]) ?_
 simp -implicitDefEqProofs[-A3]
 rw[A3]
 simp -implicitDefEqProofs[-A3]
 refine Ah hfr (by simp) (by simp) (by simp[Ae,Aj t]) ?_
 simp -implicitDefEqProofs[-A3]
 refine E2 (fun f=>True) (fun Q' hn hr=>?_) (fun f hI=>?_)
 · rw[A3]
   simp -implicitDefEqProofs[-A3]
   refine Ah (hi1) (by simp) (by simp) (by simp[Ag,Aa,Ac,Al,Af,Kd.l,Ae,Aj]) ?_
   simp -implicitDefEqProofs 
   refine Ah (hi2) (by simp) (by simp) (by simp[Ag,Aa,Ac,Al,Af,Kd.l,Ae,Aj]) ?_
   by_cases e1:0 < l1.length
   · by_cases e2:0 < l2.length
     · simp -implicitDefEqProofs[e1,e2,g1,g2,w1,w2,v1,v2]
       refine hn _ (by simp -implicitDefEqProofs[AC.dsts,Au,At,Aq]) ?_
       trivial
     · simp -implicitDefEqProofs[e1,e2,g1,g2,w1,w2,v1,v2]
       refine hn _ (by simp -implicitDefEqProofs[AC.dsts,Au,At,Aq]) ?_
       trivial
   · by_cases e2:0 < l2.length
     · simp -implicitDefEqProofs[e1,e2,g1,g2,w1,w2,v1,v2]
       refine hn _ (by simp -implicitDefEqProofs[AC.dsts,Au,At,Aq]) ?_
       trivial
     · simp -implicitDefEqProofs[e1,e2,g1,g2,w1,w2,v1,v2]
       refine hn _ (by simp -implicitDefEqProofs[AC.dsts,Au,At,Aq]) ?_
       trivial
 simp -implicitDefEqProofs[-A3,AC.dsts,Au,At]
 clear g1 g2 w1 w2 v1 v2 hi1 hi2
 rw[A3]
 refine Iy (fun _=>true) [2,5,12] (by rfl) ?_
 simp -implicitDefEqProofs 
 refine Hl (first:=[]) (cap:=[]) (by simpa[Cw,Aj t] using hsh) (fun b cs _ hb=>Dj (L:=[_,_]) hb) ?_
 simp -implicitDefEqProofs[Ie]
 refine Hl (first:=[]) (cap:=[]) (r:=teE (y,e)) (by simpa[Ae,Aj t,Cw,Ie,uAV] using hch) (fun b cs _ hb=>Dj (L:=[_,_]) hb) ?_
 clear hch
 simp -implicitDefEqProofs[teE,Ae,Aj y]
 refine Bp hfin (by simp) (Ex _ 0) (by simp[Ae,Aj y]) ?_
 simp -implicitDefEqProofs[teE,Ae,Aj z]
 refine hQ _ _ _ ?_
 simp -implicitDefEqProofs[teE,Ae,Aj z]
theorem Ayz (c:Kd):Ab Tryz.prog Pv [Ag c] [] (.bool !Ee c) []:=by
 refine Ab.go mixed Af1 (by simp) fun hfit Q hQ=>?_
 clear hfit
 simp -implicitDefEqProofs[Ace,Ag]
 refine Ah (Nm c) (by simp) (by simp) (by simp[Ag,Aa,Ac,Al,Af,Kd.l,An,Ak,Ae,Aj]) ?_
 simp -implicitDefEqProofs 
 refine hQ _ _ _ ?_
 simp -implicitDefEqProofs 
def Fb (l:List Kd):Bool:=decide (l.length≤1000) && l.all Ee
theorem Ae0 (l:List Kd):Ab Tryz.prog N4 [.sl .none (l.map Ao)] [] (.bool (Fb l)) []:=by
 have h:=Aer l (fun x=>!Ee x) Pv fun x _=>Ayz x
 rw[Hg] at h
 have key:Fb l=(decide (l.length≤1000) && l.all Ee):=rfl
 generalize l.all Ee=b at h key
 by_cases hl:l.length≤1000
 · have hl':(l.length:Int)≤1000:=by omega
   have key:Fb l=b:=by rw[key]; simp[hl]
   refine Ab.go mixed Acf (by simp) fun hfit Q hQ=>?_
   clear hfit
   simp -implicitDefEqProofs[V7,hl,hl']
   refine Ah (h) (by simp) (by simp) (by simp[Ag,Aa,Ac,Al,Af,Kd.l,An,Ak,Ae,Aj]) ?_
   simp -implicitDefEqProofs 
   refine hQ _ _ _ ?_
   simp -implicitDefEqProofs[key]
 · have hl': ¬(l.length:Int)≤1000:=by omega
   have hl2:(1000:Int) < (l.length:Int):=by omega
   have key:Fb l=false:=by rw[key]; simp[hl]
   refine Ab.go mixed Acf (by simp) fun hfit Q hQ=>?_
   clear hfit
   simp -implicitDefEqProofs[V7,hl,hl',hl2]
   refine hQ _ _ _ ?_
   simp -implicitDefEqProofs[key]
theorem Ara (c:Cn) (hc:Ap c≤1000000000000):Ab Tryz.prog Py [Aa c] [] (.bool !A6 c) []:=by
 refine Ab.go mixed Ahj (by simp) fun hfit Q hQ=>?_
 clear hfit
 simp -implicitDefEqProofs[Ac9,Aa,Ac c]
 refine Ah (D5 c hc) (by simp) (by simp) (by simp[Ag,Aa,Ac,Al,Af,Kd.l,An,Ak,Ae,Aj]) ?_
 simp -implicitDefEqProofs 
 refine hQ _ _ _ ?_
 simp -implicitDefEqProofs 
theorem Ah8 (l:List Cn) (hz: ∀x ∈ l,Ap x≤1000000000000):Ab Tryz.prog Pz [.sl .none (l.map Ai)] [] (.bool (l.all A6)) []:=by
 have h:=Ir l (fun x=>!A6 x) Py fun x hx=>Ara x (hz x hx)
 rw[Hg] at h
 generalize l.all A6=b at h ⊢
 refine Ab.go mixed Alg (by simp) fun hfit Q hQ=>?_
 clear hfit
 simp -implicitDefEqProofs[Aca]
 refine Ah (h) (by simp) (by simp) (by simp[Ag,Aa,Ac,Al,Af,Kd.l,An,Ak,Ae,Aj]) ?_
 simp -implicitDefEqProofs 
 refine hQ _ _ _ ?_
 simp -implicitDefEqProofs 
theorem size_pos (s:Sm):(0 < Di s)↔Ct s=true:=by
 unfold Di
 cases h:Ct s
 · simp
 · have:=(Yd s 20000 1 h).1
   simp;omega
theorem Azr (ks:List Kd) (s:Sm) (hc:C1 s):Ab Tryz.prog Aa0 [Aw ks s] [] (.bool (Fb ks && Ct s)) []:=by
 have h1:=Ae0 ks
 have h2:=Ka s hc
 have hp:=size_pos s
 generalize Fb ks=b at h1 ⊢
 generalize Di s=z at h2 hp
 generalize Ct s=f at hp ⊢
 cases b
 · refine Ab.go mixed Acg (by simp) fun hfit Q hQ=>?_
   clear hfit
   simp -implicitDefEqProofs[Xp,Aw,Ak s]
   refine Ah (h1) (by simp) (by simp) (by simp[Ag,Aa,Ac,Al,Af,Kd.l,An,Ak,Ae,Aj]) ?_
   simp -implicitDefEqProofs 
   refine hQ _ _ _ ?_
   simp -implicitDefEqProofs 
 · cases f
   · have hz: ¬0 < z:=by simp[hp]
     refine Ab.go mixed Acg (by simp) fun hfit Q hQ=>?_
     clear hfit
     simp -implicitDefEqProofs[Xp,Aw,Ak s]
     refine Ah (h1) (by simp) (by simp) (by simp[Ag,Aa,Ac,Al,Af,Kd.l,An,Ak,Ae,Aj]) ?_
     simp -implicitDefEqProofs 
     refine Ah (h2) (by simp) (by simp) (by simp[Ag,Aa,Ac,Al,Af,Kd.l,An,Ak,Ae,Aj]) ?_
     simp -implicitDefEqProofs[hz]
     refine hQ _ _ _ ?_
     simp -implicitDefEqProofs 
   · have hz:0 < z:=by simp[hp]
     refine Ab.go mixed Acg (by simp) fun hfit Q hQ=>?_
     clear hfit
     simp -implicitDefEqProofs[Xp,Aw,Ak s]
     refine Ah (h1) (by simp) (by simp) (by simp[Ag,Aa,Ac,Al,Af,Kd.l,An,Ak,Ae,Aj]) ?_
     simp -implicitDefEqProofs 
     refine Ah (h2) (by simp) (by simp) (by simp[Ag,Aa,Ac,Al,Af,Kd.l,An,Ak,Ae,Aj]) ?_
     simp -implicitDefEqProofs[hz]
     refine hQ _ _ _ ?_
     simp -implicitDefEqProofs 
open Classical in
noncomputable def teV (t:Te):Bool:=if h:teB t then (Sn t h).choose else false
theorem I3 (t:Te) (h:teB t):Ab Tryz.prog Gi [Ae t] [] (.bool (teV t)) []∧(teV t=true→tOk 400 t):=by
 rw[teV,dif_pos h]; exact (Sn t h).choose_spec
theorem teV_ok {t:Te} (h:teV t=true):tOk 400 t:=by
 by_cases hb:teB t
 · exact (I3 t hb).2 h
 · rw[teV,dif_neg hb] at h;cases h
structure elB (e:El):Prop where
 s:C1 e.s
 t:teB e.t
 w: ∀x ∈ e.w,Ap x≤1000000000000
def puB (e:El):Bool:=if e.pure=true then decide (e.w.length=e.ks.length) else decide (e.w.length=0)
theorem Zw (e:El) (hb:elB e) (v:Bool) (h3:Ab Tryz.prog Gi [Ae e.t] [] (.bool v) []):Ab Tryz.prog Gv [Av e] [] (.bool (Fb e.ks && Ct e.s && v && e.w.all A6 && puB e)) []:=by
 have h1:=Ae0 e.ks
 have h2:=Ka e.s hb.s
 have hp:=Lk e.s
 have h4:=Ah8 e.w hb.w
 obtain⟨r,key⟩: ∃r,r=(Fb e.ks && Ct e.s && v && e.w.all A6 && puB e):=⟨_,rfl⟩
 rw[← key]
 generalize Fb e.ks=b at h1 key
 generalize Di e.s=z at h2 hp
 generalize Ct e.s=f at hp key
 generalize e.w.all A6=c at h4 key
 cases b
 · obtain rfl:r=false:=by simpa using key
   refine Ab.go mixed Kq (by simp) fun hfit Q hQ=>?_
   clear hfit
   simp -implicitDefEqProofs[Jf,Av,Bd e]
   refine Ah (h1) (by simp) (by simp) (by simp[Ag,Aa,Ac,Al,Af,Kd.l,An,Ak,Ae,Aj]) ?_
   simp -implicitDefEqProofs 
   refine hQ _ _ _ ?_
   simp -implicitDefEqProofs 
 cases f
 · obtain rfl:r=false:=by simpa using key
   have hz:z=0:=hp.2 rfl
   subst hz
   refine Ab.go mixed Kq (by simp) fun hfit Q hQ=>?_
   clear hfit
   simp -implicitDefEqProofs[Jf,Av,Bd e]
   refine Ah (h1) (by simp) (by simp) (by simp[Ag,Aa,Ac,Al,Af,Kd.l,An,Ak,Ae,Aj]) ?_
   simp -implicitDefEqProofs 
   refine Ah (h2) (by simp) (by simp) (by simp[Ag,Aa,Ac,Al,Af,Kd.l,An,Ak,Ae,Aj]) ?_
   simp -implicitDefEqProofs 
   refine hQ _ _ _ ?_
   simp -implicitDefEqProofs 
 have hz: ¬z=0:=fun h=>by have:=hp.1 h;cases this
 have hz':(z == 0)=false:=by simpa using hz
 cases v
 · obtain rfl:r=false:=by simpa using key
   refine Ab.go mixed Kq (by simp) fun hfit Q hQ=>?_
   clear hfit
   simp -implicitDefEqProofs[Jf,Av,Bd e]
   refine Ah (h1) (by simp) (by simp) (by simp[Ag,Aa,Ac,Al,Af,Kd.l,An,Ak,Ae,Aj]) ?_
   simp -implicitDefEqProofs 
   refine Ah (h2) (by simp) (by simp) (by simp[Ag,Aa,Ac,Al,Af,Kd.l,An,Ak,Ae,Aj]) ?_
   simp -implicitDefEqProofs[hz,hz']
   refine Ah (h3) (by simp) (by simp) (by simp[Ag,Aa,Ac,Al,Af,Kd.l,An,Ak,Ae,Aj]) ?_
   simp -implicitDefEqProofs 
   refine hQ _ _ _ ?_
   simp -implicitDefEqProofs 
 cases c
 · obtain rfl:r=false:=by simpa using key
   refine Ab.go mixed Kq (by simp) fun hfit Q hQ=>?_
   clear hfit
   simp -implicitDefEqProofs[Jf,Av,Bd e]
   refine Ah (h1) (by simp) (by simp) (by simp[Ag,Aa,Ac,Al,Af,Kd.l,An,Ak,Ae,Aj]) ?_
   simp -implicitDefEqProofs 
   refine Ah (h2) (by simp) (by simp) (by simp[Ag,Aa,Ac,Al,Af,Kd.l,An,Ak,Ae,Aj]) ?_
   simp -implicitDefEqProofs[hz,hz']
   refine Ah (h3) (by simp) (by simp) (by simp[Ag,Aa,Ac,Al,Af,Kd.l,An,Ak,Ae,Aj]) ?_
   simp -implicitDefEqProofs 
   refine Ah (h4) (by simp) (by simp) (by simp[Ag,Aa,Ac,Al,Af,Kd.l,An,Ak,Ae,Aj]) ?_
   simp -implicitDefEqProofs 
   refine hQ _ _ _ ?_
   simp -implicitDefEqProofs 
 obtain rfl:r=puB e:=by simpa using key
 clear key
 obtain⟨q,hq⟩: ∃q,q=puB e:=⟨_,rfl⟩
 rw[← hq]
 unfold puB at hq
 generalize hpu:e.pure=pu at hq
 cases pu
 · rw[if_neg (by simp)] at hq
   by_cases hw:e.w.length=0
   · obtain rfl:q=true:=by rw[hq]; simp[hw]
     clear hq
     have hw':(e.w.length:Int)=0:=by omega
     refine Ab.go mixed Kq (by simp) fun hfit Q hQ=>?_
     clear hfit
     simp -implicitDefEqProofs[Jf,Av,Bd e]
     refine Ah (h1) (by simp) (by simp) (by simp[Ag,Aa,Ac,Al,Af,Kd.l,An,Ak,Ae,Aj]) ?_
     simp -implicitDefEqProofs 
     refine Ah (h2) (by simp) (by simp) (by simp[Ag,Aa,Ac,Al,Af,Kd.l,An,Ak,Ae,Aj]) ?_
     simp -implicitDefEqProofs[hz,hz']
     refine Ah (h3) (by simp) (by simp) (by simp[Ag,Aa,Ac,Al,Af,Kd.l,An,Ak,Ae,Aj]) ?_
     simp -implicitDefEqProofs 
     refine Ah (h4) (by simp) (by simp) (by simp[Ag,Aa,Ac,Al,Af,Kd.l,An,Ak,Ae,Aj]) ?_
     simp -implicitDefEqProofs[hpu,hw,hw']
     refine hQ _ _ _ ?_
     simp -implicitDefEqProofs 
   · obtain rfl:q=false:=by rw[hq]; simp[hw]
     clear hq
     have hw': ¬(e.w.length:Int)=0:=by omega
     refine Ab.go mixed Kq (by simp) fun hfit Q hQ=>?_
     clear hfit
     simp -implicitDefEqProofs[Jf,Av,Bd e]
     refine Ah (h1) (by simp) (by simp) (by simp[Ag,Aa,Ac,Al,Af,Kd.l,An,Ak,Ae,Aj]) ?_
     simp -implicitDefEqProofs 
     refine Ah (h2) (by simp) (by simp) (by simp[Ag,Aa,Ac,Al,Af,Kd.l,An,Ak,Ae,Aj]) ?_
     simp -implicitDefEqProofs[hz,hz']
     refine Ah (h3) (by simp) (by simp) (by simp[Ag,Aa,Ac,Al,Af,Kd.l,An,Ak,Ae,Aj]) ?_
     simp -implicitDefEqProofs 
     refine Ah (h4) (by simp) (by simp) (by simp[Ag,Aa,Ac,Al,Af,Kd.l,An,Ak,Ae,Aj]) ?_
     simp -implicitDefEqProofs[hpu,hw,hw']
     refine hQ _ _ _ ?_
     simp -implicitDefEqProofs[hw,hw']
 · rw[if_pos rfl] at hq
   by_cases hw:e.w.length=e.ks.length
   · obtain rfl:q=true:=by rw[hq]; simp[hw]
     clear hq
     refine Ab.go mixed Kq (by simp) fun hfit Q hQ=>?_
     clear hfit
     simp -implicitDefEqProofs[Jf,Av,Bd e]
     refine Ah (h1) (by simp) (by simp) (by simp[Ag,Aa,Ac,Al,Af,Kd.l,An,Ak,Ae,Aj]) ?_
     simp -implicitDefEqProofs 
     refine Ah (h2) (by simp) (by simp) (by simp[Ag,Aa,Ac,Al,Af,Kd.l,An,Ak,Ae,Aj]) ?_
     simp -implicitDefEqProofs[hz,hz']
     refine Ah (h3) (by simp) (by simp) (by simp[Ag,Aa,Ac,Al,Af,Kd.l,An,Ak,Ae,Aj]) ?_
     simp -implicitDefEqProofs 
     refine Ah (h4) (by simp) (by simp) (by simp[Ag,Aa,Ac,Al,Af,Kd.l,An,Ak,Ae,Aj]) ?_
     simp -implicitDefEqProofs[hpu,hw]
     refine hQ _ _ _ ?_
     simp -implicitDefEqProofs 
   · obtain rfl:q=false:=by rw[hq]; simp[hw]
     clear hq
     have hw': ¬(e.w.length:Int)=(e.ks.length:Int):=by omega
     refine Ab.go mixed Kq (by simp) fun hfit Q hQ=>?_
     clear hfit
     simp -implicitDefEqProofs[Jf,Av,Bd e]
     refine Ah (h1) (by simp) (by simp) (by simp[Ag,Aa,Ac,Al,Af,Kd.l,An,Ak,Ae,Aj]) ?_
     simp -implicitDefEqProofs 
     refine Ah (h2) (by simp) (by simp) (by simp[Ag,Aa,Ac,Al,Af,Kd.l,An,Ak,Ae,Aj]) ?_
     simp -implicitDefEqProofs[hz,hz']
     refine Ah (h3) (by simp) (by simp) (by simp[Ag,Aa,Ac,Al,Af,Kd.l,An,Ak,Ae,Aj]) ?_
     simp -implicitDefEqProofs 
     refine Ah (h4) (by simp) (by simp) (by simp[Ag,Aa,Ac,Al,Af,Kd.l,An,Ak,Ae,Aj]) ?_
     simp -implicitDefEqProofs[hpu,hw,hw']
     refine hQ _ _ _ ?_
     simp -implicitDefEqProofs[hw,hw']
noncomputable def elF (e:El):Bool:=Fb e.ks && Ct e.s && teV e.t && e.w.all A6 && puB e
theorem Yg (e:El) (hb:elB e):Ab Tryz.prog Gv [Av e] [] (.bool (elF e)) []:=Zw e hb _ (I3 e.t hb.t).1
noncomputable def O0 (e:El) (ks:List Kd) (s:Sm) (l:List Cn) (c:Te):Bool:=elF e && (Fb ks && Ct s) && l.all A6 && decide (l.length=ks.length) && teV c
theorem Avn (e:El) (ks:List Kd) (s:Sm) (l:List Cn) (c:Te) (hb:elB e) (hs:C1 s) (hl: ∀x ∈ l,Ap x≤1000000000000) (hc:teB c):
 Ab Tryz.prog Ys [Av e,Aw ks s,.sl .none (l.map Ai),Ae c] [] (.bool (O0 e ks s l c)) []:=by
 have h1:=Yg e hb
 have h2:=Azr ks s hs
 have h3:=Ah8 l hl
 have h4:=(I3 c hc).1
 have key:O0 e ks s l c=(elF e && (Fb ks && Ct s) && l.all A6 && decide (l.length=ks.length) && teV c):=rfl
 generalize O0 e ks s l c=r at key ⊢
 generalize elF e=b at h1 key
 generalize (Fb ks && Ct s)=f at h2 key
 generalize l.all A6=v at h3 key
 generalize teV c=y at h4 key
 cases b
 · obtain rfl:r=false:=by simpa using key
   refine Ab.go mixed Sg (by simp) fun hfit Q hQ=>?_
   clear hfit
   simp -implicitDefEqProofs[P3,Av,Aw,Ae,Bd e,Ak s,Aj c]
   refine Ah h1 (by simp) (by simp) (by simp[Av,Bd e]) ?_
   simp -implicitDefEqProofs 
   refine hQ _ _ _ ?_
   simp -implicitDefEqProofs 
 cases f
 · obtain rfl:r=false:=by simpa using key
   refine Ab.go mixed Sg (by simp) fun hfit Q hQ=>?_
   clear hfit
   simp -implicitDefEqProofs[P3,Av,Aw,Ae,Bd e,Ak s,Aj c]
   refine Ah h1 (by simp) (by simp) (by simp[Av,Bd e]) ?_
   simp -implicitDefEqProofs 
   refine Ah h2 (by simp[Aw]) (by simp) (by simp[Aw,Ak s]) ?_
   simp -implicitDefEqProofs 
   refine hQ _ _ _ ?_
   simp -implicitDefEqProofs 
 cases v
 · obtain rfl:r=false:=by simpa using key
   refine Ab.go mixed Sg (by simp) fun hfit Q hQ=>?_
   clear hfit
   simp -implicitDefEqProofs[P3,Av,Aw,Ae,Bd e,Ak s,Aj c]
   refine Ah h1 (by simp) (by simp) (by simp[Av,Bd e]) ?_
   simp -implicitDefEqProofs 
   refine Ah h2 (by simp[Aw]) (by simp) (by simp[Aw,Ak s]) ?_
   simp -implicitDefEqProofs 
   refine Ah (h3) (by simp) (by simp) (by simp[Ag,Aa,Ac,Al,Af,Kd.l,An,Ak,Ae,Aj]) ?_
   simp -implicitDefEqProofs 
   refine hQ _ _ _ ?_
   simp -implicitDefEqProofs 
 by_cases hw:l.length=ks.length
 · obtain rfl:r=y:=by simpa[hw] using key
   have hw':(l.length:Int)=(ks.length:Int):=by omega
   refine Ab.go mixed Sg (by simp) fun hfit Q hQ=>?_
   clear hfit
   simp -implicitDefEqProofs[P3,Av,Aw,Ae,Bd e,Ak s,Aj c]
   refine Ah h1 (by simp) (by simp) (by simp[Av,Bd e]) ?_
   simp -implicitDefEqProofs 
   refine Ah h2 (by simp[Aw]) (by simp) (by simp[Aw,Ak s]) ?_
   simp -implicitDefEqProofs 
   refine Ah (h3) (by simp) (by simp) (by simp[Ag,Aa,Ac,Al,Af,Kd.l,An,Ak,Ae,Aj]) ?_
   simp -implicitDefEqProofs[hw,hw']
   refine Ah (h4) (by simp) (by simp) (by simp[Ag,Aa,Ac,Al,Af,Kd.l,An,Ak,Ae,Aj]) ?_
   simp -implicitDefEqProofs 
   refine hQ _ _ _ ?_
   simp -implicitDefEqProofs 
 · obtain rfl:r=false:=by simpa[hw] using key
   have hw': ¬(l.length:Int)=(ks.length:Int):=by omega
   refine Ab.go mixed Sg (by simp) fun hfit Q hQ=>?_
   clear hfit
   simp -implicitDefEqProofs[P3,Av,Aw,Ae,Bd e,Ak s,Aj c]
   refine Ah h1 (by simp) (by simp) (by simp[Av,Bd e]) ?_
   simp -implicitDefEqProofs 
   refine Ah h2 (by simp[Aw]) (by simp) (by simp[Aw,Ak s]) ?_
   simp -implicitDefEqProofs 
   refine Ah (h3) (by simp) (by simp) (by simp[Ag,Aa,Ac,Al,Af,Kd.l,An,Ak,Ae,Aj]) ?_
   simp -implicitDefEqProofs[hw,hw']
   refine hQ _ _ _ ?_
   simp -implicitDefEqProofs 
theorem Mp (e:El):Ab Tryz.prog Jc [Av e] [] (Aw e.ks e.s) []:=by
 refine Ab.go mixed A21 (by simp) fun hfit Q hQ=>?_
 clear hfit
 simp -implicitDefEqProofs[Ann,Av,Bd e]
 refine hQ _ _ _ ?_
 simp -implicitDefEqProofs[Aw,Ak e.s]
def teN (op n:Int) (l:List Te):Te:=.mk op n [] Az Az (.mk []) [] l
theorem A0q (op n:Int) (l:List Te):Bm (teN op n l)=[.int .i64 op,.int .i64 n,.str [],.int .i64 0,.int .i64 0,.str [],.sl .none [],.sl .none [],.sl .none [],.int .i64 0,.int .i64 0,.str [],.sl .none [],.sl .none [],.sl .none [],.sl .none [],.sl .none [],.sl .none (l.map Bm)]:=by
 rw[teN,Tc]; rfl
theorem Mv {op n:Int} {l:List Te} (h: ∀x ∈ l,teB x):teB (teN op n l):=by
 rw[J1]; exact⟨by show Ap Az≤_;decide,by show Ap Az≤_;decide,h⟩
theorem Nb (op n:Int) (l:List Te):Ab Tryz.prog Fw [.int .i64 op,.int .i64 n,.sl .none (l.map Bm)] [] (Ae (teN op n l)) []:=by
 refine Ab.go mixed Azp (by simp) fun hfit Q hQ=>?_
 clear hfit
 simp -implicitDefEqProofs[Aq0]
 refine hQ _ _ _ ?_
 simp -implicitDefEqProofs[Ae,A0q]
end Go.Proofs.YtemdkfnenjpioaaGreatDoor
namespace Go.Proofs.YtemdkfnenjpioaaGreatDoor
open Go Go.RowKit
attribute [local simp] Ar aev Ax A7 start AV.cells AV.undef Bc Be Bh Bl Bj AV.isCell Bf A1 Bi
attribute [local simp] fin A9 A8 Bb AV.strip Ay A5 AV.inScope Am A0 As
attribute [local simp] Ca Cg
attribute [-simp] Int.not_lt Int.not_le
def Mc (P:Program) (f:FuncId) (args:List AV) (v:AV) (e:Int):Prop:=(e=0→Ab P f args [] v [])∧(e≠0→Ch P f args [] e [])
theorem Jq:Ab Tryz.prog Fj [.int .i64 0] [] (.tup []) []:=by
 refine Ab.go mixed An4 (by simp) fun hfit Q hQ=>?_
 clear hfit
 simp -implicitDefEqProofs[Adz]
 refine hQ _ _ _ ?_
 simp -implicitDefEqProofs 
theorem Ata (e:Int) (h:e≠0) (w:World):Calls Tryz.prog 39 #[.int .i64 e] w fun x w'=>x= .panicked [{ v:=.iface 121 (.agg #[.int .i64 e]),recovered:=false }]∧w'=w:=by
 have hne: ∀w:World,(binOp .neq 41 (.int .i64 e) (.int .i64 0)).run Tryz.prog w= .ok (.bool true) w:=fun w=>by simp[go_sem,h]
 refine calls_of_wp Tryz.func39 rfl ?_
 refine wp_seq (wp_region ?_)
 simp[wpOps,Oper.wp,go_sem,Tryz.ntmps39,hne]
 refine .inl (.inl ?_)
 refine wp_cond (t:=true) (by simp[Act.eval,Array.replicate,h]) ?_
 simp only[if_true]
 refine wp_region ?_
 simp[wpOps,Oper.wp,go_sem,bodyPost]
 done
theorem K5 (e:Int) (h:e≠0):Ch Tryz.prog Fj [.int .i64 e] [] e []:=by
 refine⟨by kernel_rfl,fun F g w vs hG hs hr=>?_⟩
 simp only[RL] at hr
 obtain⟨v,_,rfl,hv,rfl⟩:=hr
 obtain⟨rfl,hi⟩:=E1 hv
 refine (Ata e h w).mono ?_
 rintro x w' ⟨rfl,rfl⟩
 refine⟨.pan (Fz e),[],F,g,⟨rfl,rfl⟩,hs,Ext.refl _ _ _ _,_,rfl,?_⟩
 simp only[Fz,R,RL]
 exact⟨_,rfl,_,rfl,_,_,rfl,⟨rfl,hi⟩,rfl⟩
theorem Aor (s:Sm) (d fr:Int) (hc:C1 s) (hd0:0≤d) (hd:d≤20000) (hf0:0≤fr) (hf:fr≤20000):Mc Tryz.prog Io [An s,.int .i64 d,.int .i64 fr] (An (shM s d fr).1) (shM s d fr).2:=by
 have hk:=Axh s d fr hc hd0 hd hf0 hf
 generalize shM s d fr=p at hk ⊢
 obtain⟨r,e⟩:=p
 constructor
 · intro he
   simp only at he
   subst he
   refine Ab.go mixed Aew (by simp) fun hfit Q hQ=>?_
   clear hfit
   simp -implicitDefEqProofs[Ux,An,Ak s]
   refine Ah hk (by simp) (Lr _ 0) (by simp[An,Ak s]) ?_
   simp -implicitDefEqProofs[smE,An,Ak r]
   refine Ah (Jq) (by simp) (by simp) (by simp[Ag,Aa,Ac,Al,Af,Kd.l,An,Ak,Ae,Aj]) ?_
   simp -implicitDefEqProofs 
   refine hQ _ _ _ ?_
   simp -implicitDefEqProofs[An,Ak r]
 · intro he
   simp only at he
   refine Ch.go mixed Aew (by simp) (by simp) fun hfit=>?_
   letI:Cc:=Dy e []
   clear hfit
   simp -implicitDefEqProofs[Ux,An,Ak s]
   refine Ah hk (by simp) (Lr _ 0) (by simp[An,Ak s]) ?_
   simp -implicitDefEqProofs[smE,An,Ak r]
   exact Ko (K5 e he) (by simp) (by simp) ⟨_,rfl⟩
theorem Auv (t:Te) (d1 d2:Int) (hb:teB t) (h0:0≤d1) (h1:d1≤20000) (h2:0≤d2) (h3:d2≤20000): ∃p:Te × Int,Mc Tryz.prog Pl [Ae t,.int .i64 d1,.int .i64 d2] (Ae p.1) p.2∧(p.2=0→tOk 400 p.1):=by
 obtain⟨p,hk,hok,_⟩:=Agd t d1 d2 hb h0 h1 h2 h3
 refine⟨p,?_,hok⟩
 clear hok
 obtain⟨r,e⟩:=p
 constructor
 · intro he
   simp only at he
   subst he
   refine Ab.go mixed Ajj (by simp) fun hfit Q hQ=>?_
   clear hfit
   simp -implicitDefEqProofs[Ab1,Ae,Aj t]
   refine Ah hk (by simp) (Ex _ 0) (by simp[Ae,Aj t]) ?_
   simp -implicitDefEqProofs[teE,Ae,Aj r]
   refine Ah (Jq) (by simp) (by simp) (by simp[Ag,Aa,Ac,Al,Af,Kd.l,An,Ak,Ae,Aj]) ?_
   simp -implicitDefEqProofs 
   refine hQ _ _ _ ?_
   simp -implicitDefEqProofs[Ae,Aj r]
 · intro he
   simp only at he
   refine Ch.go mixed Ajj (by simp) (by simp) fun hfit=>?_
   letI:Cc:=Dy e []
   clear hfit
   simp -implicitDefEqProofs[Ab1,Ae,Aj t]
   refine Ah hk (by simp) (Ex _ 0) (by simp[Ae,Aj t]) ?_
   simp -implicitDefEqProofs[teE,Ae,Aj r]
   exact Ko (K5 e he) (by simp) (by simp) ⟨_,rfl⟩
theorem Awb (t:Te) (l:List Cn) (hb:teB t) (hz: ∀x ∈ l,Ap x≤1000000000000): ∃p:Te × Int,Mc Tryz.prog S3 [Ae t,.sl .none (l.map Ai)] (Ae p.1) p.2∧(p.2=0→tOk 400 p.1):=by
 have hbk:=Agx l
 obtain⟨p,hk,hok,_⟩:=A0r t l.reverse hb (fun x hx=>hz x (by simpa using hx))
 refine⟨p,?_,hok⟩
 clear hok
 generalize l.reverse=l' at hbk hk
 obtain⟨r,e⟩:=p
 constructor
 · intro he
   simp only at he
   subst he
   refine Ab.go mixed Ahe (by simp) fun hfit Q hQ=>?_
   clear hfit
   simp -implicitDefEqProofs[Adv,Ae,Aj t]
   refine Fe (fun _=>true) [] (by rfl) (by rfl) ?_
   simp -implicitDefEqProofs 
   refine Bp hbk (by simp) (by simp) (by simp) ?_
   simp -implicitDefEqProofs 
   refine Bp hk (by simp) (Ex _ 0) (by simp[Ae,Aj t]) ?_
   simp -implicitDefEqProofs[teE,Ae,Aj r]
   refine⟨fun b cs _ hb=>by simpa using Dj (L:=[_]) hb,?_⟩
   refine Ah (Jq) (by simp) (by simp) (by simp[Ag,Aa,Ac,Al,Af,Kd.l,An,Ak,Ae,Aj]) ?_
   simp -implicitDefEqProofs 
   refine hQ _ _ _ ?_
   simp -implicitDefEqProofs[Ae,Aj r]
 · intro he
   simp only at he
   refine Ch.go mixed Ahe (by simp) (by simp) fun hfit=>?_
   letI:Cc:=Dy e []
   clear hfit
   simp -implicitDefEqProofs[Adv,Ae,Aj t]
   refine Fe (fun _=>true) [] (by rfl) (by rfl) ?_
   simp -implicitDefEqProofs 
   refine Bp hbk (by simp) (by simp) (by simp) ?_
   simp -implicitDefEqProofs 
   refine Bp hk (by simp) (Ex _ 0) (by simp[Ae,Aj t]) ?_
   simp -implicitDefEqProofs[teE,Ae,Aj r]
   refine⟨fun b cs _ hb=>by simpa using Dj (L:=[_]) hb,?_⟩
   exact Ko (K5 e he) (by simp) (by simp) ⟨_,rfl⟩
theorem Ahz (c:Cn) (l:List Cn) (hc:Ap c≤1000000000000) (hz: ∀x ∈ l,Ap x≤1000000000000): ∃p:Cn × Int,Mc Tryz.prog Yo [Aa c,.sl .none (l.map Ai)] (Aa p.1) p.2∧Ap p.1≤20000:=by
 have hbk:=Agx l
 have hk:=T5 c l.reverse hc (fun x hx=>hz x (by simpa using hx))
 have hsz:=(On c l.reverse).1
 generalize suM c l.reverse=q at hk hsz
 generalize l.reverse=l' at hbk hk
 obtain⟨y,f⟩:=q
 by_cases hf:f=0
 case neg=>
  refine⟨(y,f),⟨fun h=>absurd h hf,fun _=>?_⟩,hsz⟩
  refine Ch.go mixed Add (by simp) (by simp) fun hfit=>?_
  letI:Cc:=Dy f []
  clear hfit
  simp -implicitDefEqProofs[Vp,Aa,Ac c]
  refine Fe (fun _=>true) [] (by rfl) (by rfl) ?_
  simp -implicitDefEqProofs 
  refine Bp hbk (by simp) (by simp) (by simp) ?_
  simp -implicitDefEqProofs 
  refine Bp hk (by simp) (Co _ 0) (by simp[Aa,Ac c]) ?_
  simp -implicitDefEqProofs[cnE,Aa,Ac y]
  refine⟨fun b cs _ hb=>by simpa using Dj (L:=[_]) hb,?_⟩
  exact Ko (K5 f hf) (by simp) (by simp) ⟨_,rfl⟩
 subst hf
 obtain⟨p,hn,hp⟩:=Ad0 y (by simp only at hsz;omega)
 refine⟨p,?_,hp⟩
 obtain⟨r,e⟩:=p
 constructor
 · intro he
   simp only at he
   subst he
   refine Ab.go mixed Add (by simp) fun hfit Q hQ=>?_
   clear hfit
   simp -implicitDefEqProofs[Vp,Aa,Ac c]
   refine Fe (fun _=>true) [] (by rfl) (by rfl) ?_
   simp -implicitDefEqProofs 
   refine Bp hbk (by simp) (by simp) (by simp) ?_
   simp -implicitDefEqProofs 
   refine Bp hk (by simp) (Co _ 0) (by simp[Aa,Ac c]) ?_
   simp -implicitDefEqProofs[cnE,Aa,Ac y]
   refine⟨fun b cs _ hb=>by simpa using Dj (L:=[_]) hb,?_⟩
   refine Ah (Jq) (by simp) (by simp) (by simp[Ag,Aa,Ac,Al,Af,Kd.l,An,Ak,Ae,Aj]) ?_
   simp -implicitDefEqProofs 
   refine Ah hn (by simp) (Co _ 0) (by simp[Aa,Ac y]) ?_
   simp -implicitDefEqProofs[cnE,Aa,Ac r]
   refine Ah (Jq) (by simp) (by simp) (by simp[Ag,Aa,Ac,Al,Af,Kd.l,An,Ak,Ae,Aj]) ?_
   simp -implicitDefEqProofs 
   refine hQ _ _ _ ?_
   simp -implicitDefEqProofs[Aa,Ac r]
 · intro he
   simp only at he
   refine Ch.go mixed Add (by simp) (by simp) fun hfit=>?_
   letI:Cc:=Dy e []
   clear hfit
   simp -implicitDefEqProofs[Vp,Aa,Ac c]
   refine Fe (fun _=>true) [] (by rfl) (by rfl) ?_
   simp -implicitDefEqProofs 
   refine Bp hbk (by simp) (by simp) (by simp) ?_
   simp -implicitDefEqProofs 
   refine Bp hk (by simp) (Co _ 0) (by simp[Aa,Ac c]) ?_
   simp -implicitDefEqProofs[cnE,Aa,Ac y]
   refine⟨fun b cs _ hb=>by simpa using Dj (L:=[_]) hb,?_⟩
   refine Ah (Jq) (by simp) (by simp) (by simp[Ag,Aa,Ac,Al,Af,Kd.l,An,Ak,Ae,Aj]) ?_
   simp -implicitDefEqProofs 
   refine Ah hn (by simp) (Co _ 0) (by simp[Aa,Ac y]) ?_
   simp -implicitDefEqProofs[cnE,Aa,Ac r]
   exact Ko (K5 e he) (by simp) (by simp) ⟨_,rfl⟩
def opI:Nat→Te→Te
 | 0,i=>i
 | k+1,i=>teN 9 0 [teN 1 0 [],opI k i]
theorem Amz: ∀(k:Nat) (i:Te),teB i→teB (opI k i)
 | 0,_,h=>h
 | k+1,i,h=>by
   rw[opI]
   refine Mv fun x hx=>?_
   simp only[List.mem_cons,List.not_mem_nil,or_false] at hx
   rcases hx with rfl | rfl
   · exact Mv fun x hx=>by simp at hx
   · exact Amz k i h
theorem A17 (n:Int) (t i:Te) (h0:0≤n) (h1:n≤1000000) (ht:teB t) (hi:teB i): ∃r,Ab Tryz.prog U3 [.int .i64 n,Ae t,Ae i] [] (Ae r) []∧teB r:=by
 by_cases hn:n=0
 · subst hn
   have hk:=Nb 17 0 [t,i]
   refine⟨teN 17 0 [t,i],?_,Mv fun x hx=>by
    simp only[List.mem_cons,List.not_mem_nil,or_false] at hx
    rcases hx with rfl | rfl<;>assumption⟩
   generalize teN 17 0 [t,i]=r at hk ⊢
   refine Ab.go mixed Agc (by simp) fun hfit Q hQ=>?_
   clear hfit
   simp -implicitDefEqProofs[Aau,Ae,Aj t,Aj i]
   refine Ah hk (by simp) (by simp) (by simp[Aj t,Aj i,A1]) ?_
   simp -implicitDefEqProofs[Ae,Aj r]
   refine hQ _ _ _ ?_
   simp -implicitDefEqProofs[Ae,Aj r]
 · obtain⟨N,hN⟩: ∃N:Nat,n=N+1:=⟨(n - 1).toNat,by omega⟩
   subst hN
   have hk:=Nb 9 0 [t,opI N i]
   have hm:=Amz N i hi
   refine⟨teN 9 0 [t,opI N i],?_,Mv fun x hx=>by
    simp only[List.mem_cons,List.not_mem_nil,or_false] at hx
    rcases hx with rfl | rfl<;>assumption⟩
   generalize teN 9 0 [t,opI N i]=r at hk ⊢
   clear hm
   have hv:=Nb 1 0 []
   generalize hu:teN 1 0 []=u at hv
   have hw:=Ba (n:=(N:Int)) (by omega) (by omega)
   refine Ab.go mixed Agc (by simp) fun hfit Q hQ=>?_
   clear hfit
   simp -implicitDefEqProofs[Aau,Ae,Aj t,Aj i,hn,hw]
   refine B5 (AWp.loopS (fun z:Te=>[.var (Bm t),.var (Bm z),.var Cw]) (fun m f z G=>G=[]∧∃k:Nat,k+m=N∧f 15= .int .i64 k∧z=opI k i) N i [] (by simp[Aj t,Aj i,Cw]) ⟨rfl,0,by simp,rfl,rfl⟩ ?_)
   rintro m f z G ⟨rfl,k,hk1,h15,rfl⟩
   refine AWp.run mixed fun Q2 hQ2=>?_
   simp -implicitDefEqProofs[AC.dsts,Au,At,Bo,h15]
   by_cases hlt:k < N
   · have hlt':(k:Int) < (N:Int):=by omega
     have hk2:=Nb 9 0 [u,opI k i]
     have hn2:opI (k+1) i=teN 9 0 [u,opI k i]:=by rw[opI,hu]
     generalize teN 9 0 [u,opI k i]=y at hk2 hn2
     generalize opI k i=z at hk2
     simp -implicitDefEqProofs[hlt,hlt',Aj z]
     refine C3 (by rfl) ?_
     simp -implicitDefEqProofs 
     refine Bp hv (by simp) (by simp) (by simp) ?_
     simp -implicitDefEqProofs[Ae,Aj u]
     refine Bp hk2 (by simp) (by simp) (by simp[Aj u,Aj z,A1]) ?_
     simp -implicitDefEqProofs[Ae,Aj y,Ba (n:=(k:Int)+1) (by omega) (by omega)]
     refine hQ2 _ _ _ (Ia (m - 1) y (G':=[]) (by simp[Aj y]) (by omega) (by simp -implicitDefEqProofs[AC.dsts,Au,At,Aq]) ?_)
     exact⟨rfl,k+1,by omega,by simp[Aq],hn2.symm⟩
   · have hlt': ¬(k:Int) < (N:Int):=by omega
     obtain rfl:k=N:=by omega
     generalize opI k i=z at hk
     simp -implicitDefEqProofs[hlt,hlt']
     refine hQ2 _ _ _ (Jm ?_)
     show KE _ 0 _ Q _ _
     simp -implicitDefEqProofs[Aj z,Aj t]
     refine Ah hk (by simp) (by simp) (by simp[Aj t,Aj z,A1]) ?_
     simp -implicitDefEqProofs[Ae,Aj r]
     refine hQ _ _ _ ?_
     simp -implicitDefEqProofs[Ae,Aj r]
end Go.Proofs.YtemdkfnenjpioaaGreatDoor
namespace Go.Proofs.YtemdkfnenjpioaaGreatDoor
open Go
attribute [local simp] AV.strip Ay A5 AV.inScope Am A0 As
def T6:List (List AV)→Option (List (List UInt8))
 | []=>some []
 | [.str s] :: r=>match T6 r with | some l=>some (s :: l) | none=>none
 | _=>none
theorem Amw: ∀(r:List (List AV)) (l:List (List UInt8)),T6 r=some l→A5 r=Af l
 | [],l,h=>by simp only[T6,Option.some.injEq] at h;subst h;rfl
 | x :: r,l,h=>by
   unfold T6 at h
   split at h
   · rename_i he;cases he
   · rename_i s r' he
     cases he
     split at h
     · rename_i l' hl
       cases h
       simp only[A5,Ay,AV.strip,Amw _ _ hl,Af,List.map_cons]
     · cases h
   · cases h
mutual
def unKd:Nat→List AV→Option Kd
 | 0,_=>none
 | n+1,[.sl _ rows]=>match Nl n rows with | some l=>some (.mk l) | none=>none
 | _+1,_=>none
def Nl:Nat→List (List AV)→Option (List Kd)
 | _,[]=>some []
 | 0,_ :: _=>none
 | n+1,x :: r=>match unKd n x,Nl n r with | some k,some l=>some (k :: l) | _,_=>none
end
mutual
theorem Ah9: ∀(n:Nat) (cs:List AV) (k:Kd),unKd n cs=some k→Ay cs=Ao k
 | 0,_,_,h=>by simp[unKd] at h
 | n+1,cs,k,h=>by
   unfold unKd at h
   split at h
   · rename_i he;cases he
   · rename_i m t rows he
     cases he
     split at h
     · rename_i l hl
       cases h
       simp only[Ay,AV.strip,Aep _ _ _ hl,Aj3]
     · cases h
   · cases h
theorem Aep: ∀(n:Nat) (r:List (List AV)) (l:List Kd),Nl n r=some l→A5 r=l.map Ao
 | _,[],l,h=>by simp only[Nl,Option.some.injEq] at h;subst h;rfl
 | 0,_ :: _,l,h=>by simp[Nl] at h
 | n+1,x :: r,l,h=>by
   simp only[Nl] at h
   split at h
   · rename_i k l' h1 h2
     cases h
     simp only[A5,Ah9 _ _ _ h1,Aep _ _ _ h2,List.map_cons]
   · cases h
end
mutual
def M6:Nat→List AV→Option Cn
 | 0,_=>none
 | n+1,[.int .i64 op,.int .i64 m,.str s,.sl _ ks,.sl _ ns,.sl _ l]=>match Nl n ks,T6 ns,M8 n l with | some ks,some ns,some l=>some (.mk op m s (.mk ks) ns l) | _,_,_=>none
 | _+1,_=>none
def M8:Nat→List (List AV)→Option (List Cn)
 | _,[]=>some []
 | 0,_ :: _=>none
 | n+1,x :: r=>match M6 n x,M8 n r with | some k,some l=>some (k :: l) | _,_=>none
end
mutual
theorem Vt: ∀(n:Nat) (cs:List AV) (k:Cn),M6 n cs=some k→Ay cs=Ai k
 | 0,_,_,h=>by simp[M6] at h
 | n+1,cs,k,h=>by
   unfold M6 at h
   split at h
   · rename_i he;cases he
   · rename_i he
     cases he
     split at h
     · rename_i h1 h2 h3
       cases h
       simp only[Ay,AV.strip,Aep _ _ _ h1,Amw _ _ h2,Z6 _ _ _ h3,Ga,Kd.l]
     · cases h
   · cases h
theorem Z6: ∀(n:Nat) (r:List (List AV)) (l:List Cn),M8 n r=some l→A5 r=l.map Ai
 | _,[],l,h=>by simp only[M8,Option.some.injEq] at h;subst h;rfl
 | 0,_ :: _,l,h=>by simp[M8] at h
 | n+1,x :: r,l,h=>by
   simp only[M8] at h
   split at h
   · rename_i k l' h1 h2
     cases h
     simp only[A5,Vt _ _ _ h1,Z6 _ _ _ h2,List.map_cons]
   · cases h
end
def Tf:List (List AV)→Option (List UInt8)
 | []=>some []
 | [.int .u8 n] :: r=>match Tf r with
   | some l=>if ((UInt8.ofNat n.toNat).toNat:Int)=n then some (UInt8.ofNat n.toNat :: l) else none
   | none=>none
 | _=>none
theorem Aqv: ∀(rows:List (List AV)) (l:List UInt8),Tf rows=some l→rows=K6 l
 | [],l,h=>by simp only[Tf,Option.some.injEq] at h;subst h;rfl
 | r :: rows,l,h=>by
   unfold Tf at h
   split at h
   · rename_i he;cases he
   · rename_i n r' he
     cases he
     split at h
     · rename_i l' hl
       split at h
       · rename_i hn
         cases h
         rw[Aqv _ _ hl]
         simp only[K6,List.map_cons,hn]
       · cases h
     · cases h
   · cases h
def Aeg (args:List AV) (H:List HB):Option (AV × List HB):=
 match args with
 | [.ptr b 0]=>match H[b]? with
   | some (.tvar e [.nilp,buf])=>match Nat.beq e 102 || Nat.beq e 104 with
     | false=>none
     | true=>some (.tup [],H.set b (.tvar e [.ptr b 0,buf]))
   | some (.tvar _ [.ptr b' 0,_])=>match Nat.beq b' b with
     | true=>some (.tup [],H)
     | false=>none
   | _=>none
 | _=>none
def Aaq (args:List AV) (H:List HB):Option (AV × List HB):=
 match args with
 | [.ptr b 0]=>match H[b]? with
   | some (.tvar _ [_,.sl (.own t) rows])=>match Tf rows,H[t]? with
     | some (c :: l),some (.tok n k ty)=>match Nat.beq n (c :: l).length,Nat.beq k 1,Nat.beq ty 5 with
       | true,true,true=>some (.str (c :: l),H)
       | _,_,_=>none
     | _,_=>none
   | _=>none
 | _=>none
theorem Av1 {args:List AV} {H H':List HB} {v:AV} (h:Aeg args H=some (v,H')):Ab Tryz.prog M4 args H v H':=by
 unfold Aeg at h
 split at h
 · split at h
   · rename_i hb
     split at h
     · cases h
     · rename_i hne
       cases h
       refine A20 hb ?_
       rw[Bool.or_eq_true] at hne
       exact hne.imp Nat.eq_of_beq_eq_true Nat.eq_of_beq_eq_true
   · rename_i hb
     split at h
     · rename_i he
       cases h
       rw[Nat.eq_of_beq_eq_true he] at hb
       exact Awz hb
     · cases h
   · cases h
 · cases h
theorem Art {args:List AV} {H H':List HB} {v:AV} (h:Aaq args H=some (v,H')):Ab Tryz.prog S2 args H v H':=by
 unfold Aaq at h
 split at h
 · split at h
   · rename_i hb
     split at h
     · rename_i h1 h2
       split at h
       · rename_i e1 e2 e3
         cases h
         rw[Nat.eq_of_beq_eq_true e1,Nat.eq_of_beq_eq_true e2,Nat.eq_of_beq_eq_true e3] at h2
         rw[Aqv _ _ h1] at hb
         exact Azb (by simp) hb h2
       · cases h
     · cases h
   · cases h
 · cases h
def Aai (args:List AV) (H:List HB):Option (AV × List HB):=
 match args with
 | [.agg cs]=>match M6 20 cs with
   | some c=>match Nat.ble (Ap c) 1000000 with
     | true=>match A6 c with
       | true=>some (.bool true,H)
       | false=>some (.bool false,H)
     | false=>none
   | none=>none
 | _=>none
theorem Awu {args:List AV} {H H':List HB} {v:AV} (h:Aai args H=some (v,H')):Ab Tryz.prog D3 args H v H':=by
 unfold Aai at h
 split at h
 · rename_i cs
   split at h
   · rename_i c hc
     have hs:=Vt _ _ _ hc
     split at h
     · rename_i hz
       have hz:=Nat.le_of_ble_eq_true hz
       have hv:=D5 c (by omega)
       have key:Ab Tryz.prog D3 [.agg cs] H (.bool (A6 c)) H:=(hv.lift (by simp) (by simp) H).args (by simp[Aa,hs])
       split at h
       · rename_i e;cases h;rw[e] at key;exact key
       · rename_i e;cases h;rw[e] at key;exact key
     · cases h
   · cases h
 · cases h
def Aal (args:List AV) (H:List HB):Option (AV × List HB):=
 match args with
 | [.agg cs]=>match unKd 20 cs with
   | some c=>match Ee c with
     | true=>some (.bool true,H)
     | false=>some (.bool false,H)
   | none=>none
 | _=>none
theorem Asv {args:List AV} {H H':List HB} {v:AV} (h:Aal args H=some (v,H')):Ab Tryz.prog Fv args H v H':=by
 unfold Aal at h
 split at h
 · rename_i cs
   split at h
   · rename_i c hc
     have hs:=Ah9 _ _ _ hc
     have hv:=Nm c
     have key:Ab Tryz.prog Fv [.agg cs] H (.bool (Ee c)) H:=(hv.lift (by simp) (by simp) H).args (by simp[Ag,hs])
     split at h
     · rename_i e;cases h;rw[e] at key;exact key
     · rename_i e;cases h;rw[e] at key;exact key
   · cases h
 · cases h
def Aah (args:List AV) (H:List HB):Option (AV × List HB):=
 match args with
 | [.agg cs,.int .i64 d,.int .i64 fr]=>match M6 20 cs with
   | some c=>match Nat.ble (Ap c) 1000000 && decide (0≤d) && decide (d≤20000) && decide (0≤fr) && decide (fr≤20000) with
     | true=>match shS c d fr with
       | (r,e)=>some (.tup [Aa r,.int .i64 e],H)
     | false=>none
   | none=>none
 | _=>none
theorem Avm {args:List AV} {H H':List HB} {v:AV} (h:Aah args H=some (v,H')):Ab Tryz.prog Fg args H v H':=by
 unfold Aah at h
 split at h
 · rename_i cs d fr
   split at h
   · rename_i c hc
     have hs:=Vt _ _ _ hc
     split at h
     · rename_i hz
       simp only[Bool.and_eq_true,decide_eq_true_eq] at hz
       obtain⟨⟨⟨⟨z1,z2⟩,z3⟩,z4⟩,z5⟩:=hz
       have z1:=Nat.le_of_ble_eq_true z1
       have hv:=Le c d fr (by omega) z2 z3 z4 (by omega)
       have key:Ab Tryz.prog Fg [.agg cs,.int .i64 d,.int .i64 fr] H (cnE (shS c d fr)) H:=(hv.lift (by simp) (Co _ 0) H).args (by simp[Aa,hs])
       split at h
       rename_i r e he
       cases h
       rw[he] at key
       exact key
     · cases h
   · cases h
 · cases h
def Aem (args:List AV) (H:List HB):Option (AV × List HB):=
 match args with
 | [.agg cs,.sl _ rows]=>match M6 20 cs,M8 20 rows with
   | some c,some l=>match Nat.ble (Ap c) 1000000 && l.all fun x=>Nat.ble (Ap x) 1000000 with
     | true=>match suM c l with
       | (r,e)=>some (.tup [Aa r,.int .i64 e],H)
     | false=>none
   | _,_=>none
 | _=>none
theorem Awg {args:List AV} {H H':List HB} {v:AV} (h:Aem args H=some (v,H')):Ab Tryz.prog Lv args H v H':=by
 unfold Aem at h
 split at h
 · rename_i cs t rows
   split at h
   · rename_i c l hc hl
     have hs:=Vt _ _ _ hc
     have hs2:=Z6 _ _ _ hl
     split at h
     · rename_i hz
       simp only[Bool.and_eq_true,List.all_eq_true] at hz
       obtain⟨z1,z2⟩:=hz
       have z1:=Nat.le_of_ble_eq_true z1
       have hv:=T5 c l (by omega) (fun x hx=>by have:=Nat.le_of_ble_eq_true (z2 x hx); omega)
       have key:Ab Tryz.prog Lv [.agg cs,.sl t rows] H (cnE (suM c l)) H:=(hv.lift (by simp) (Co _ 0) H).args (by simp[Aa,hs,hs2])
       split at h
       rename_i r e he
       cases h
       rw[he] at key
       exact key
     · cases h
   · cases h
 · cases h
end Go.Proofs.YtemdkfnenjpioaaGreatDoor
