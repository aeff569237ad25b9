/- Joined: Itr K42 K43. -/
import Derived.RangeFuncBox
import Derived.RangeFuncLeaves
import Derived.Shelf.Abstract
import Derived.WalkKit
import Derived.OwnWalkIn
import Derived.TacticsInMore
import Derived.LoopNIn
import Derived.LoopIn
import Derived.Test.YtemdkfnenjpioaaGreatDoorProg
import Derived.Test.YtemdkfnenjpioaaGreatDoorG17
import Derived.Test.YtemdkfnenjpioaaGreatDoorG10
set_option linter.unusedSimpArgs false
set_option linter.unusedVariables false
set_option linter.unusedSectionVars false
set_option linter.all false
set_option maxHeartbeats 4000000
set_option maxRecDepth 10000
namespace Go.Proofs.YtemdkfnenjpioaaGreatDoor
open Go Go.RowKit Go.Shelf Go.Proofs
attribute [local go_sem] Oper.semAt_some
def Gl {α :Type} (f:Nat→α) (n k:Nat):List α:=(List.range k).map fun j=>f (n - 1 - j)
theorem Ag9 {α :Type} (f:Nat→α) (n k:Nat):Gl f n (k+1)=Gl f n k++[f (n - 1 - k)]:=by simp[Gl,List.range_succ]
theorem Ajf {α :Type} (f:Nat→α) (n k:Nat):(Gl f n k).length=k:=by simp[Gl]
set_option maxRecDepth 100000 in
set_option maxHeartbeats 4000000 in
theorem back1_in {α :Type} (Dm: α→Array Value) (el:Nat→α) (zs:Nat→Value) (Kp:World→World→Prop) (F:Fence) (n:Nat) (h148:F.fn 183) (hro:F.round=none) (hn:1≤n) (l Bs b off len cap:Nat) (hlen:len≤1073741824)
 (hel: ∀k,k < len→Dm (el k)= #[.int .i64 k,.agg #[zs k]])
 (hK1: ∀W W',Kp W W'→W'.cell? ⟨Bs,0,none⟩=W.cell? ⟨Bs,0,none⟩) (hK2: ∀W W' k,k < len→Kp W W'→W'.cell? ⟨b,off+k,none⟩=W.cell? ⟨b,off+k,none⟩) (J Jx:List α→World→Prop)
 (hY: ∀pre x W,J pre W→pre.length < len→YieldAt F (n - 1) Tryz.prog l (Dm x) W fun e W'=>
  (e= .returned (.bool true)∧J (pre++[x]) W'∧Kp W W')∨(e= .returned (.bool false)∧Jx (pre++[x]) W'))
 (W:World) (hBs:W.cell? ⟨Bs,0,none⟩=some (.slice (some ⟨b,off,none⟩) len cap)) (hc: ∀j,j < len→W.cell? ⟨b,off+j,none⟩=some (zs j)) (h0:J [] W):
 CallsIn F n Tryz.prog 183 #[.func (.yield l) #[] #[],.pointer (some ⟨Bs,0,none⟩)] W fun e W'=>(∃ v,e= .returned v)∧
  ((∃ ys,ys=Gl el len len∧J ys W')∨(∃ pre,Jx pre W')):=by
 refine callsIn_of_wp Tryz.func183 rfl h148 ?_ hro
 simp only[Tryz.ntmps183,List.size_toArray,List.length_cons,List.length_nil,Nat.reduceAdd,Nat.reduceSub,Array.replicate_succ,Array.replicate_zero,List.push_toArray,List.append_toArray,List.nil_append,List.cons_append]
 gi_wp2
 gi_loopw [3] (fun i wr=>∃k:Nat,k≤len∧i= .int .i64 ((len:Int) - 1 - k)∧J (Gl el len k) wr∧wr.cell? ⟨Bs,0,none⟩=some (.slice (some ⟨b,off,none⟩) len cap)∧∀j,j < len→wr.cell? ⟨b,off+j,none⟩=some (zs j))
  (fun i _=>(intOf i+1).toNat)
 case atStart=>exact⟨0,Nat.zero_le _,by simp,h0,hBs,hc⟩
 case round=>
  obtain⟨k,hk,rfl,hJs,hB1,hB2⟩:=hrel
  by_cases hlt:k < len
  · obtain⟨fn,tmps,assign,body,hy,hR⟩:=hY _ (el (len - 1 - k)) wr hJs (by rw[Ajf]; exact hlt)
    have hcx':=hB2 (len - 1 - k) (by omega)
    rw[hel _ (by omega)] at hy
    have he:((len - 1 - k:Nat):Int)=(len:Int) - 1 - k:=by omega
    rw[he] at hy
    gi_wp2
    refine hR.mono ?_
    rintro e W3 (⟨rfl,hJ3,hk3⟩ | ⟨rfl,hJx3⟩)
    · gi_wp2
      go_roundw
      case rel=>exact⟨k+1,by omega,by congr 1;omega,by rw[Ag9]; exact hJ3,(hK1 _ _ hk3).trans hB1,fun j hj=>(hK2 _ _ j hj hk3).trans (hB2 j hj)⟩
      case measure=>simp[intOf]; omega
    · gi_wp2
      refine bodyPost_ret (results_none rfl _ _ _) rfl ?_
      exact⟨⟨_,rfl⟩,.inr ⟨_,hJx3⟩⟩
  · obtain rfl:k=len:=by omega
    gi_wp2
    go_end0
    exact⟨⟨_,rfl⟩,.inl ⟨_,rfl,hJs⟩⟩
set_option maxRecDepth 100000 in
set_option maxHeartbeats 4000000 in
theorem Als {α :Type} (F:Fence) (n:Nat) (h148:F.fn 183) (hro:F.round=none) (l Bs:Nat) (J:List α→World→Prop) (W:World) (o:Option Addr) (cp:Nat) (hBs:W.cell? ⟨Bs,0,none⟩=some (.slice o 0 cp)) (h0:J [] W):
 CallsIn F n Tryz.prog 183 #[.func (.yield l) #[] #[],.pointer (some ⟨Bs,0,none⟩)] W fun e W'=>(∃ v,e= .returned v)∧J [] W':=by
 refine callsIn_of_wp Tryz.func183 rfl h148 ?_ hro
 simp only[Tryz.ntmps183,List.size_toArray,List.length_cons,List.length_nil,Nat.reduceAdd,Nat.reduceSub,Array.replicate_succ,Array.replicate_zero,List.push_toArray,List.append_toArray,List.nil_append,List.cons_append]
 gi_wp2
 gi_loopw [3] (fun i wr=>i= .int .i64 (-1)∧J [] wr) (fun _ _=>0)
 case atStart=>exact⟨by simp,h0⟩
 case round=>
  obtain⟨rfl,hJs⟩:=hrel
  gi_wp2
  go_end0
  exact⟨⟨_,rfl⟩,hJs⟩
end Go.Proofs.YtemdkfnenjpioaaGreatDoor
namespace Go.Proofs.YtemdkfnenjpioaaGreatDoor
open Go
attribute [local simp] Ar aev Ax A7 start AV.cells AV.undef Bc Be Bh Bl Bj AV.isCell Bf A1 Bi
attribute [local simp] fin A9 A8 Bb AV.strip Ay A5 AV.inScope Am A0 As
def uZ:List AV:=[.int .i64 0,.int .i64 0,.str [],.sl .none [],.sl .none [],.sl .none []]
def uA:AC:=.region [⟨(some 3),(.box (.tmp 0)),none⟩,⟨(some 5),(.box (.tmp 2)),none⟩,⟨(some 6),(.alloc [(.int .i64 0),(.int .i64 0),(.str []),(.sl .nilT []),(.sl .nilT []),(.sl .nilT [])]),none⟩]
def uB:AC:=.region [⟨(some 9),(.mov (.tmp 1)),none⟩,⟨(some 10),(.call (.cst (.fn (.func Y6) [] [])) [(.tmp 9)]),none⟩]
def uAs:AC:=.region [⟨(some 8),(.alloc [(.sl .nilT [])]),none⟩,⟨none,(.store 1 (.tmp 8) (.tmp 12)),none⟩]
def uBd:AC:=.draw [⟨(some 13),(.load false 1 (.tmp 3)),none⟩,⟨(some 14),(.load true 1 (.tmp 8)),none⟩,⟨(some 15),(.call (.cst (.fn (.func Ky) [] [])) [(.tmp 14)]),none⟩,⟨(some 16),(.load true 6 (.tmp 5)),none⟩,⟨(some 17),(.buildSl 6 [(.int .i64 0),(.int .i64 0),(.str []),(.sl .nilT []),(.sl .nilT []),(.sl .nilT [])] 1 [(0,(.tmp 16))]),none⟩,⟨(some 18),(.build [(.int .i64 0),(.int .i64 0),(.str []),(.sl .nilT []),(.sl .nilT []),(.sl .nilT [])] [(0,(1,(.tmp 13))),(3,(1,(.tmp 15))),(5,(1,(.tmp 17)))]),none⟩,⟨none,(.store 6 (.tmp 5) (.tmp 18)),none⟩] [[],[],[1],[],[3],[0,2,4],[5,2,0,1,2,3,4,5]]
def uDl:List AO:=[⟨(some 19),(.load true 6 (.tmp 5)),none⟩,⟨none,(.store 6 (.tmp 6) (.tmp 19)),none⟩]
def uT (op:Int) (ks:List Kd) (c0:Cn) (s9 fnv s8 s11 s12:AV):List AV:=
 [.int .i64 op,.sl .none (ks.map Ao),Aa c0,.ptr 0 0,.undef,.ptr 1 0,.ptr 2 0,.undef,s8,s9,fnv,s11,s12,.undef,.undef,.undef,.undef,.undef,.undef,.undef]
def uH (op:Int) (c:Cn):List HB:=[.var [.int .i64 op],.var (Ai c),.var uZ]
theorem Aq2 (op:Int) (c:Cn):As 3 (uH op c)=true:=by simp[uH,uZ]
theorem A06 (op:Int) (c:Cn) (ks:List Kd):Ab Tryz.prog Y6 [.sl .none (ks.map Ao)] (uH op c) (.fn (.func G7) [] [.ptr 3 0]) (uH op c++[.var [.sl .none (ks.map Ao)]]):=by
 refine Ab.go mixed Aty (by simp) fun hfit Q hQ=>?_
 clear hfit
 simp -implicitDefEqProofs[Aow,uH,uZ]
 refine hQ _ _ _ ?_
 simp -implicitDefEqProofs[uH,uZ]
def uH0 (op:Int) (c:Cn):List HB:=[.var [.int .i64 op],.var (Ai c),.var [.int .i64 0,.int .i64 0,.str [],.sl .nilT [],.sl .nilT [],.sl .nilT []]]
theorem Akr (op:Int) (c:Cn):(uH0 op c).map Gr=uH op c:=by
 have:Ay (Ai c)=Ai c:=by simp
 simp[uH0,uH,uZ,Gr,this]
theorem u_first (op:Int) (ks:List Kd) (c:Cn):AWp Tryz.prog uA (start [.int .i64 op,.sl .none (ks.map Ao),Aa c] 20) [] (fun x t H=>x= .normal∧t=uT op ks c .undef .undef .undef .undef .undef∧H=uH0 op c):=by
 refine AWp.run mixed fun Q hQ=>?_
 simp -implicitDefEqProofs[uA,Aa]
 refine hQ _ _ _ ?_
 simp[uT,uH0,Aa]
theorem u_second (op:Int) (ks:List Kd) (c:Cn):AWp Tryz.prog uB (uT op ks c .undef .undef .undef .undef .undef) (uH op c) (fun x t H=>x= .normal∧t=uT op ks c (.sl .none (ks.map Ao)) (.fn (.func G7) [] [.ptr 3 0]) .undef .undef .undef∧H=uH op c++[.var [.sl .none (ks.map Ao)]]):=by
 refine AWp.run mixed fun Q hQ=>?_
 simp -implicitDefEqProofs[uB,uT]
 refine Br (A06 op c ks) ?_
 simp -implicitDefEqProofs
 refine hQ _ _ _ ?_
 simp[uT]
theorem u_assign {ro:Option Nat} {n:Nat} (op:Int) (ks:List Kd) (c0 c:Cn) (s9 fnv:AV) (i:Int) (k:Kd):Cy Tryz.prog ro n uAs (uT op ks c0 s9 fnv .undef (.int .i64 i) (Ag k)) (uH op c) (fun x t H=>x= .normal∧t=uT op ks c0 s9 fnv (.ptr 3 0) (.int .i64 i) (Ag k)∧H=uH op c++[.var (Ao k)]):=by
 refine Cy.region (Hu ?_)
 show AR_ _ _ [] (fun x t H=>x= .normal∧t=uT op ks c0 s9 fnv (.ptr 3 0) (.int .i64 i) (Ag k)∧H=uH op c++[.var (Ao k)]) _ _
 simp -implicitDefEqProofs[uT,uH,Ag,Al k]
theorem u_body {ro:Option Nat} {n:Nat} (op:Int) (ks:List Kd) (c0 c:Cn) (s9 fnv s11 s12:AV) (k:Kd):Cy Tryz.prog ro n uBd (uT op ks c0 s9 fnv (.eptr (Ao k)) s11 s12) (uH op c) (fun x _ H=>x= .normal∧∃cs,H=[.var [.int .i64 op],.var cs,.var uZ]∧Ay cs=Ai (Hd op k c)):=by
 refine Cy.drawC mixed (fun _=>true) [] (by rfl) ?_
 show DR _ _ _ _ _ _ [] (fun x _ H=>x= .normal∧∃cs,H=[.var [.int .i64 op],.var cs,.var uZ]∧Ay cs=Ai (Hd op k c)) _ _
 simp -implicitDefEqProofs[uT,uH,Al k,Ac c]
 refine Bp (Z5 k) (by simp) (by simp) (by simp[Ag,Al k]) ?_
 simp -implicitDefEqProofs[Ag,Al k,A1,Hd,Ga,Ac c,J3]
theorem u_last (op:Int) (ks:List Kd) (c0 c:Cn) (s9 fnv s8 s11 s12:AV):Du Tryz.prog uDl (uT op ks c0 s9 fnv s8 s11 s12) (uH op c) (fun t H=>t.getD 6 .undef= .ptr 2 0∧H=[.var [.int .i64 op],.var (Ai c),.var (Ai c)]):=by
 refine Hu ?_
 show AR_ _ _ [] (fun _ t H=>t.getD 6 .undef= .ptr 2 0∧H=[.var [.int .i64 op],.var (Ai c),.var (Ai c)]) _ _
 simp -implicitDefEqProofs[uDl,uT,uH,uZ,Ac c]
theorem u_code: ∃(fn:Func) (a b d asg bdy:Code),Tryz.prog.funcs[88]? =some fn∧fn.body=some (.seq a (.seq (.seq b (.block 0 (.rangeFunc (.tmp 10) #[11,12] asg (.block 1 bdy)))) (.seq d .ret)))∧
 B4 Tryz.prog a=some uA∧B4 Tryz.prog b=some uB∧B4 Tryz.prog asg=some uAs∧B4 Tryz.prog bdy=some uBd∧B4 Tryz.prog d=some (.region uDl)∧fn.ntmps=20∧Hb Tryz.prog fn.results.toList=some [.cell 6 true 6]:=
 ⟨Tryz.f88,_,_,_,_,_,Tryz.func88,rfl,by kernel_rfl,by kernel_rfl,by kernel_rfl,by kernel_rfl,by kernel_rfl,by kernel_rfl,by kernel_rfl⟩
end Go.Proofs.YtemdkfnenjpioaaGreatDoor
namespace Go.Proofs.YtemdkfnenjpioaaGreatDoor
open Go Go.RowKit
attribute [local simp] Ar aev Ax A7 start AV.cells AV.undef Bc Be Bh Bl Bj AV.isCell Bf A1 Bi
attribute [local simp] fin A9 A8 Bb AV.strip Ay A5 AV.inScope Am A0 As
theorem Qk (op:Int) (c:Cn):Qh (uH op c):=by
 intro b ks h
 match b,h with
 | 0,h=>cases h
 | 1,h=>cases h
 | 2,h=>cases h
 | b+3,h=>simp[uH] at h
theorem uH_len (op:Int) (c:Cn):(uH op c).length=3:=rfl
def cI (op:Int) (c:Cn) (l:List Kd):Cn:=l.foldl (fun c k=>Hd op k c) c
theorem cI_snoc (op:Int) (c:Cn) (l:List Kd) (k:Kd):cI op c (l++[k])=Hd op k (cI op c l):=by simp[cI]
theorem cI_rev (op:Int) (c:Cn) (l:List Kd):cI op c l.reverse=Cq op l c:=by simp[cI,Cq,List.foldl_reverse]
theorem Ra {F:Addr→Prop} {g:Gh} {w:World} {op:Int} {c:Cn} (hs:St F g (uH op c) w): ∀b,g.tk b=none:=by
 intro b
 rcases Nat.lt_or_ge b 3 with h | h
 · have: ∃cs,(uH op c)[b]? =some (.var cs):=by
    match b,h with
    | 0,_=>exact⟨_,rfl⟩
    | 1,_=>exact⟨_,rfl⟩
    | 2,_=>exact⟨_,rfl⟩
   obtain⟨cs,hcs⟩:=this
   obtain⟨_,_,_,_,h2,_⟩:=hs.var b cs hcs
   exact h2
 · exact (hs.beyond b (by simpa[uH_len] using h)).2
theorem uH_blk {F:Addr→Prop} {g:Gh} {w:World} {op:Int} {c:Cn} (hs:St F g (uH op c) w) {b:Nat} (h:b < 3): ∃B,g.blk b=some B∧∀off,¬F ⟨B,off,none⟩:=by
 have: ∃cs,(uH op c)[b]? =some (.var cs):=by
  match b,h with
  | 0,_=>exact⟨_,rfl⟩
  | 1,_=>exact⟨_,rfl⟩
  | 2,_=>exact⟨_,rfl⟩
 obtain⟨cs,hcs⟩:=this
 obtain⟨B,_,_,h1,_,_,_,h5⟩:=hs.var b cs hcs
 exact⟨B,h1,h5⟩
theorem Td {F:Addr→Prop} {g:Gh} {w:World} {x:AV} {vs:List Value} (h:RL F g w [x] vs): ∃v,vs=[v]∧R F g w x v:=by
 simp only[RL] at h
 obtain⟨v,r,rfl,h1,rfl⟩:=h
 exact⟨v,rfl,h1⟩
theorem kd_one (k:Kd): ∃x,Ao k=[x]∧x.isCell=true:=⟨_,Al k,rfl⟩
theorem Aza (ks:List Kd) (hln:ks.length≤1073741824) (FS:Addr→Prop) (g:Gh) (w:World) (B:Nat) (hFS: ∀a,FS a→a.block < w.heap.size) (sv:Value) (hB:FS ⟨B,0,none⟩) (hc:w.cell? ⟨B,0,none⟩=some sv) (hr:R FS g w (.sl .none (ks.map Ao)) sv):
 SeqStopsK Fence.wide 2 Tryz.prog 183 #[.pointer (some ⟨B,0,none⟩)] (fun x: { x:Int × Value × Kd // R FS g w (Ag x.2.2) x.2.1∧IntKind.i64.has x.1 }=>#[.int .i64 x.1.1,x.1.2.1]) (fun W W'=>∀a,FS a→W'.cell? a=W.cell? a)
  (fun xs=>xs.map (fun x=>x.1.2.2)=ks.reverse) (fun _=>True) ks.length w:=by
 intro l J Jx W hW _ _ hY h0
 have hcell: ∀a,FS a→W.cell? a=w.cell? a:=fun a ha=>Fs (hW.block _ (hFS a ha))
 have hc':=(hcell _ hB).trans hc
 obtain⟨_,h⟩:=Ep hr
 rcases h with⟨h1,rfl,_⟩ | ⟨b,off,sp,cap,k,rfl,h2,⟨hk,h1 | rfl⟩,h3,_⟩
 · have hks:ks=[]:=by simpa using h1
   subst hks
   exact (Als Fence.wide 2 trivial rfl l B J W _ _ hc' h0).mono fun e W' ⟨he,hj⟩=>⟨he,.inl ⟨[],rfl,hj⟩⟩
 · have hks:ks=[]:=by simpa using h1
   subst hks
   exact (Als Fence.wide 2 trivial rfl l B J W _ _ hc' h0).mono fun e W' ⟨he,hj⟩=>⟨he,.inl ⟨[],rfl,hj⟩⟩
 · have row: ∀j (hj:j < ks.length),∃v,FS ⟨b,off+j,none⟩∧w.cell? ⟨b,off+j,none⟩=some v∧R FS g w (Ag ks[j]) (.agg #[v]):=by
    intro j hj
    obtain⟨e1,e2⟩:=Sh h3 j (Ao ks[j]) (by simp[hj])
    obtain⟨x,ex,_⟩:=kd_one ks[j]
    rw[ex] at e1 e2
    have hk1:k=1:=by simpa using e1.symm
    subst hk1
    simp only[RM,Nat.mul_one] at e2
    obtain⟨⟨_,v,f1,f2,f3⟩,_⟩:=e2
    refine⟨v,f1,f2,?_⟩
    simp only[Ag,ex,R]
    exact⟨#[v],rfl,by simp only[RL]; exact⟨v,[],rfl,f3,rfl⟩⟩
   have dft:R FS g w (Ag (.mk [])) (.agg #[.slice none 0 0]):=by
    simp only[Ag,Al,R]
    exact⟨_,rfl,by simp only[RL]; exact⟨_,[],rfl,by simp[R,Kd.l],rfl⟩⟩
   let zs:Nat→Value:=fun j=>(w.cell? ⟨b,off+j,none⟩).getD undef
   have hz: ∀j (hj:j < ks.length),R FS g w (Ag ks[j]) (.agg #[zs j]):=by
    intro j hj
    obtain⟨v,_,f2,f3⟩:=row j hj
    show R FS g w _ (.agg #[(w.cell? ⟨b,off+j,none⟩).getD undef])
    rw[f2]; exact f3
   let el:Nat→{ x:Int × Value × Kd // R FS g w (Ag x.2.2) x.2.1∧IntKind.i64.has x.1 }:=fun j=>
    if hj:j < ks.length then ⟨((j:Int),.agg #[zs j],ks[j]),hz j hj,M7 (by simp only[A4]; omega)⟩ else ⟨(0,.agg #[.slice none 0 0],.mk []),dft,by simpa using M7 (n:=0) (by simp[A4])⟩
   have hel: ∀j (hj:j < ks.length),el j=⟨((j:Int),.agg #[zs j],ks[j]),hz j hj,M7 (by simp only[A4]; omega)⟩:=fun j hj=>dif_pos hj
   simp only[List.length_map] at hc' h2
   refine (back1_in (fun x: { x:Int × Value × Kd // R FS g w (Ag x.2.2) x.2.1∧IntKind.i64.has x.1 }=>#[.int .i64 x.1.1,x.1.2.1]) el zs (fun W W'=>∀a,FS a→W'.cell? a=W.cell? a) Fence.wide 2 trivial rfl (by omega) l B b off ks.length cap hln
    (fun j hj=>by rw[hel j hj]) (fun W W' h=>h _ hB) (fun W W' j hj h=>h _ (row j hj).choose_spec.1) J Jx hY W hc' (fun j hj=>?_) h0).mono ?_
   · obtain⟨v,f1,f2,_⟩:=row j hj
     rw[hcell _ f1,f2]
     show some v=some ((w.cell? ⟨b,off+j,none⟩).getD undef)
     rw[f2]; rfl
   · rintro e W' ⟨he,⟨ys,rfl,hj⟩ | ⟨pre,hj⟩⟩
     · refine⟨he,.inl ⟨_,?_,hj⟩⟩
       apply List.ext_getElem
       · simp[Gl]
       · intro i h1 h2
         have hi:i < ks.length:=by simpa[Gl] using h1
         simp only[Gl,List.map_map,List.getElem_map,List.getElem_range,Function.comp,List.getElem_reverse]
         rw[hel _ (by omega)]
     · exact⟨he,.inr ⟨pre,trivial,hj⟩⟩
theorem fold_two (x:Array Value) (v u:Value):((#[11,12]:Array Tmp).zip #[v,u]).foldl (fun t (p,v)=>t.setIfInBounds p v) x=(x.setIfInBounds 11 v).setIfInBounds 12 u:=by
 simp
set_option maxHeartbeats 1000000 in
theorem Aas:Sc:=by
 intro op ks c
 have hen:Gu Tryz.prog Qb=true:=by kernel_rfl
 refine Ab.fits hen fun hfit=>?_
 have hln:ks.length≤1073741824:=by simpa[Bn,AV.fits,A4] using hfit.2.1.1
 clear hfit
 refine⟨hen,fun F g w vs hG hs hr=>?_⟩
 obtain⟨fn,a,b,d,asg,bdy,hfn,hbody,cA,cB,cAs,cBd,cD,hnt,hres⟩:=u_code
 have hs0:=hs.cells
 have hr0:=Gd _ _ hr
 have hG0:=hG.cells
 have hF0: ∀x,Fc F w x→(w.cell? x).isSome=true:=fun x h=>h.2
 suffices key:CallsIn Fence.wide 3 Tryz.prog 88 vs.toArray w fun e w'=>∃v F' g',e= .returned v∧R F' g' w' (Aa (Cq op ks c)) v∧St F' g' [] w'∧Ext (Fc F w) g [] w F' g' [] w' by
  refine (callsIn_wide.1 key).mono ?_
  rintro e w' ⟨v,F',g',rfl,hv,hs',hx⟩
  have hfr: ∀B,B < w.heap.size→w'.heap[B]? =w.heap[B]?:=fun B hB=>hx.frame B hB fun b hb=>absurd hb (Nat.not_lt_zero b)
  refine⟨v,fun a=>F' a∨F a,g',rfl,R.mono ⟨fun _ h=>.inl h,fun _ _=>rfl,Gh.le_refl _⟩ _ _ hv,
   ⟨fun a ha=>?_,hs'.beyond,hs'.inj,fun b cs h=>(by simp at h),fun t n k ty h=>(by simp at h),fun b off s ha=>?_,fun b e cs h=>(by simp at h),fun b ks h=>(by simp at h)⟩,
   ⟨fun _ h=>.inr h,fun a ha=>Fs (hfr _ (hs.live a ha)),hx.gh,hx.size,fun B hB _=>hfr B hB,fun a ha=>?_,fun b B hb _=>absurd hb (Nat.not_lt_zero b),Nat.le_refl _,hx.io⟩⟩
  · rcases ha with ha | ha
    · exact hs'.live a ha
    · exact Nat.lt_of_lt_of_le (hs.live a ha) hx.size
  · rcases ha with ha | ha
    · exact hs'.spots b off s ha
    · exact hs.spots b off s ha
  · rcases ha with ha | ha
    · rcases hx.new a ha with h | h | ⟨t,ht,_⟩
      · exact .inl h.1
      · exact .inr (.inl h)
      · exact absurd ht (Nat.not_lt_zero t)
    · exact .inl ha
 have hlen:=Dh hr
 have sim0:Sim Tryz.prog (Fc F w) g [] w (start [.int .i64 op,.sl .none (ks.map Ao),Aa c] 20) { tmps:=vs.toArray++Array.replicate (20 - vs.toArray.size) undef,defers:=[] }:=by
  refine⟨hs0,?_,rfl,hG0⟩
  show RL (Fc F w) g w _ _
  simp only[start,Array.toList_append,Array.toList_replicate,List.size_toArray,hlen]
  exact E0 hr0 (Mg Dc _)
 refine callsIn_of_wp_marks hfn hbody trivial ?_ rfl
 rw[hnt]
 refine wpIn_seq (wpIn_mono (wpIn_wide.2 ((u_first op ks c).det a cA _ g w _ sim0)) ?_)
 rintro e a1 w1 ⟨x,t1,H1,F1,g1,rfl,⟨rfl,rfl,rfl⟩,sim1',ext1'⟩
 simp only[AX.to,Exit.then]
 have sim1:Sim Tryz.prog F1 g1 (uH op c) w1 (uT op ks c .undef .undef .undef .undef .undef) a1:=⟨Akr op c ▸ sim1'.1.strip,sim1'.2⟩
 have ext1:Ext (Fc F w) g [] w F1 g1 (uH op c) w1:=Akr op c ▸ ext1'.strip
 refine wpIn_seq (wpIn_seq (wpIn_mono (wpIn_wide.2 ((u_second op ks c).det b cB _ _ _ _ sim1)) ?_))
 rintro e a2 w2 ⟨x,t2,H2,F2,g2,rfl,⟨rfl,rfl,rfl⟩,sim2,ext2⟩
 simp only[AX.to,Exit.then]
 have ext02:=ext1.trans ext2
 have hd2:=sim2.2.2.1
 obtain⟨B3,vs3,e3,p1,p2,p3,p4,p5⟩:=sim2.1.var 3 [.sl .none (ks.map Ao)] rfl
 obtain⟨sv,hsv,hsr⟩:=Td p4
 have hsc:w2.cell? ⟨B3,0,none⟩=some sv:=by
  simp only[World.cell?,p3,Option.isSome_none,Bool.false_eq_true,if_false]
  rw[← Array.getElem?_toList,hsv]; rfl
 obtain⟨g3,q1,q2,q3⟩:=St.forget (H0:=uH op c) (L:=[.var [.sl .none (ks.map Ao)]]) sim2.1 ext02 (Nat.zero_le _) (Aq2 op c) (fun b _=>hs.beyond b (Nat.zero_le _))
 let FS:Addr→Prop:=fun x=>Fc F2 w2 x∨x=⟨B3,0,none⟩
 have K2:Cr (Fc F2 w2) g2 w2 FS g2 w2:=⟨fun _ h=>.inl h,fun _ _=>rfl,Gh.le_refl _⟩
 have hB3:B3 < w2.heap.size:=B9 p3
 have hFSl: ∀x,FS x→x.block < w2.heap.size:=fun x hx=>by
  rcases hx with hx | rfl
  · exact sim2.1.live x hx.1
  · exact hB3
 have hFSc: ∀x,FS x→(w2.cell? x).isSome=true:=fun x hx=>by
  rcases hx with hx | rfl
  · exact hx.2
  · rw[hsc]; rfl
 have hFSs: ∀b off s,¬FS ⟨b,off,some s⟩:=fun b off s hx=>by
  rcases hx with hx | hx
  · exact sim2.1.spots b off s hx.1
  · cases hx
 have hne3: ∀b B,b < 3→g2.blk b=some B→B≠B3:=fun b B hb h e=>by
  have:=sim2.1.inj b 3 B h (by rw[p1,e]); omega
 have K3:Cr F2 g3 w2 F2 g3 w2:=⟨fun _ h=>h,fun _ _=>rfl,Gh.le_refl _⟩
 have sS:St FS g3 (uH op c) w2:=by
  have s0:=q2.cells
  refine⟨hFSl,q2.beyond,q2.inj,fun b cs hb=>?_,fun t n k ty ht=>?_,hFSs,fun b e cs hb=>?_,fun b ks hb=>absurd hb (Qk op c b ks)⟩
  · obtain⟨B,us,e',h1,h2,h3,h4,h5⟩:=s0.var b cs hb
    have hb3:b < 3:=(List.getElem?_eq_some_iff.1 hb).1
    refine⟨B,us,e',h1,h2,h3,RL.mono ⟨fun _ h=>.inl h,fun _ _=>rfl,Gh.le_refl _⟩ _ _ h4,fun off h=>?_⟩
    rcases h with h | h
    · exact h5 off h
    · exact hne3 b B hb3 (by rw[← (q1 b hb3).1]; exact h1) (by cases h;rfl)
  · exfalso
    match t,ht with
    | 0,ht=>cases ht
    | 1,ht=>cases ht
    | 2,ht=>cases ht
    | t+3,ht=>simp[uH] at ht
  · exfalso
    match b,hb with
    | 0,ht=>cases ht
    | 1,ht=>cases ht
    | 2,ht=>cases ht
    | t+3,ht=>simp[uH] at ht
 have eS:Ext (Fc F w) g [] w FS g3 (uH op c) w2:=by
  refine⟨fun x hx=>.inl ⟨q3.sub x hx,?_⟩,q3.keep,q3.gh,q3.size,q3.frame,fun x hx=>?_,q3.blks,q3.len,q3.io⟩
  · rw[q3.keep x hx]; exact hx.2
  · rcases hx with hx | rfl
    · exact q3.new x hx.1
    · refine .inr (.inl ?_)
      rcases ext02.blks 3 B3 (by simp[uH]) p1 with⟨h,_⟩ | h
      · exact absurd h (Nat.not_lt_zero _)
      · exact h
 have tS:Tm FS g3 w2 (uT op ks c (.sl .none (ks.map Ao)) (.fn (.func G7) [] [.eptr [.sl .none (ks.map Ao)]]) .undef .undef .undef) a2∧a2.tmps[10]? =some (.func (.func 183) #[] #[.pointer (some ⟨B3,0,none⟩)]):=by
  have h0:RL F2 g2 w2 _ a2.tmps.toList:=sim2.2.1
  obtain⟨fv,f1,f2⟩:=I7 h0 10 (.fn (.func G7) [] [.ptr 3 0]) rfl
  obtain⟨l1,l2,rfl,k1,k2⟩:=Ou f2
  simp only[RL] at k1
  obtain⟨pv,k3,k4⟩:=Td k2
  obtain⟨B',k5,_,rfl⟩:=E9 k4
  rw[p1] at k5;cases k5
  have e1:l1= #[]:=by apply Array.ext';simpa using k1
  have e2:l2= #[.pointer (some ⟨B3,0,none⟩)]:=by apply Array.ext';simpa using k3
  subst e1 e2
  refine⟨?_,by rw[← Array.getElem?_toList]; exact f1⟩
  have h1:RL FS g2 w2 _ a2.tmps.toList:=RL.mono K2 _ _ (Gd _ _ h0)
  have hfv:R FS g2 w2 (.fn (.func G7) [] [.eptr [.sl .none (ks.map Ao)]]) (.func (.func 183) #[] #[.pointer (some ⟨B3,0,none⟩)]):=by
   simp only[R]
   refine⟨_,_,rfl,by simp[RL],?_⟩
   simp only[RL]
   refine⟨_,[],rfl,?_,rfl⟩
   simp only[R]
   refine⟨B3,0,rfl,?_⟩
   simp only[RM]
   exact⟨⟨rfl,sv,.inr rfl,hsc,R.mono K2 _ _ (K4 _ _ hsr)⟩,trivial⟩
  have h2:=Jn h1 hfv 10
  have e3:a2.tmps.toList.set 10 (.func (.func 183) #[] #[.pointer (some ⟨B3,0,none⟩)])=a2.tmps.toList:=by
   apply List.ext_getElem?
   intro i
   by_cases hi:i=10
   · subst hi
     have hl:10 < a2.tmps.toList.length:=(List.getElem?_eq_some_iff.1 f1).1
     rw[List.getElem?_set_self hl,f1]; rfl
   · rw[List.getElem?_set_ne (Ne.symm hi)]
  rw[e3] at h2
  exact Fm (n:=3) q1 _ _ (by simp[uT,Aa]) h2
 obtain⟨tS,hfv⟩:=tS
 have gS:Dr Tryz.prog FS w2:=hG0.mono eS.keeps
 have stops:=Aza ks hln FS g3 w2 B3 hFSl sv (.inr rfl) hsc (by
  have:=R.mono K2 _ _ (K4 _ _ hsr)
  exact F9 (n:=3) q1 _ _ (by simp[AV.inScope]) this)
 have t10:uT op ks c (.sl .none (ks.map Ao)) (.fn (.func G7) [] [.eptr [.sl .none (ks.map Ao)]]) .undef .undef .undef=uT op ks c (.sl .none (ks.map Ao)) (.fn (.func G7) [] [.eptr [.sl .none (ks.map Ao)]]) .undef .undef .undef:=rfl
 have mk: ∀{Fx:Addr→Prop} {gx:Gh} {W:World} {H:List HB},Ext FS g3 (uH op c) w2 Fx gx H W→Tm Fx gx W (uT op ks c (.sl .none (ks.map Ao)) (.fn (.func G7) [] [.eptr [.sl .none (ks.map Ao)]]) .undef .undef .undef) a2∧Dr Tryz.prog Fx W:=fun h=>⟨tS.mono h.keeps,gS.mono h.keeps⟩
 have sB: ∀b,3≤b→g3.blk b=none∧g3.tk b=none:=fun b hb=>sS.beyond b hb
 refine wpIn_block ?_
 refine wpIn_rangeFunc_ownH rfl (by omega) (gf:=183) (lb:=#[.pointer (some ⟨B3,0,none⟩)]) (by show a2.tmps.getD 10 undef=_;simp[Array.getD_eq_getD_getElem?,hfv]) trivial (fun args w=>W9 (by kernel_rfl) args) stops
  (fun h k a ha=>(k a ha).trans (h a ha)) (fun W l o o' hl h ho _ a ha=>?_) (Below.refl _ _) (fun _=>rfl)
  (fun pre W=>∃F' g',St F' g' (uH op (cI op c (pre.map fun x=>x.1.2.2))) W∧Ext FS g3 (uH op c) w2 F' g' (uH op (cI op c (pre.map fun x=>x.1.2.2))) W∧∀a,F' a→(W.cell? a).isSome=true)
  (fun _ _ _=>False) ?_ (fun _ _ _ _ _ h _ _=>h) ⟨FS,g3,sS,Ext.refl _ _ _ _,hFSc⟩
  (fun x a' W=>a'.defers=[]∧∃Fx gx,(∀ b,gx.tk b=none)∧(∀ b,b < 3→gx.blk b=g3.blk b)∧(∀ b,3≤b→gx.blk b=none)∧(∀ a,Fx a→(FS a∨w2.heap.size≤a.block)∧a.block < W.heap.size∧(W.cell? a).isSome=true∧a.spot=none)∧
   Tm Fx gx W (uT op ks c (.sl .none (ks.map Ao)) (.fn (.func G7) [] [.eptr [.sl .none (ks.map Ao)]]) (.eptr (Ao x.1.2.2)) (.int .i64 x.1.1) (Ag x.1.2.2)) a') ?_ ?_ ?_ ?_ ?_
 ·
  refine Fs ?_
  have:=hFSl a ha
  exact World.putObj_heap_other (by omega)
 · rintro pre W W' row ⟨F',g',h1,h2,h3⟩ hg hr
   exact⟨F',g',h1.grown (Qk op _) h3 hg fun r e=>(hr r e).2,h2.grown h3 hg hr,U5 h3 hg fun r e=>(hr r e).2⟩
 · rintro x a' _ W W' row ⟨hd,Fx,gx,b1,b2,b3,b4,b5⟩ hg hr
   have hc: ∀a,Fx a→(W.cell? a).isSome=true:=fun a ha=>(b4 a ha).2.2.1
   exact⟨hd,Fx,gx,b1,b2,b3,fun a ha=>⟨(b4 a ha).1,Nat.lt_of_lt_of_le (b4 a ha).2.1 hg.size,U5 hc hg (fun r e=>(hr r e).2) a ha,(b4 a ha).2.2.2⟩,b5.mono (Cr.grown hc hg fun r e=>(hr r e).2)⟩
 ·
  rintro l pre x W K ⟨F',g',h1,h2,h3⟩ hK
  obtain⟨tm,gl⟩:=mk h2
  have hkd:R F' g' W (Ag x.1.2.2) x.1.2.1:=by
   have e1:=F9 (n:=0) (g':=⟨fun _=>none,fun _=>none⟩) (fun b hb=>absurd hb (Nat.not_lt_zero b)) _ _ (by simp[Ag,AV.inScope]) x.2.1
   have e2:R F' ⟨fun _=>none,fun _=>none⟩ W (Ag x.1.2.2) x.1.2.1:=R.mono ⟨h2.sub,h2.keep,Gh.le_refl _⟩ _ _ e1
   exact F9 (n:=0) (fun b hb=>absurd hb (Nat.not_lt_zero b)) _ _ (by simp[Ag,AV.inScope]) e2
  have hin:R F' g' W (.int .i64 x.1.1) (.int .i64 x.1.1):=by simp only[R]; exact⟨trivial,x.2.2⟩
  have simA:Sim Tryz.prog F' g' (uH op (cI op c (pre.map fun x=>x.1.2.2))) W (uT op ks c (.sl .none (ks.map Ao)) (.fn (.func G7) [] [.eptr [.sl .none (ks.map Ao)]]) .undef (.int .i64 x.1.1) (Ag x.1.2.2))
   { tmps:=((#[11,12]:Array Tmp).zip #[.int .i64 x.1.1,x.1.2.1]).foldl (fun t (p,v)=>t.setIfInBounds p v) a2.tmps,defers:=[] }:=by
   refine⟨h1,?_,rfl,gl⟩
   show RL F' g' W _ _
   rw[fold_two]
   simp only[Array.toList_setIfInBounds]
   exact Jn (Jn tm hin 11) hkd 12
  refine wpIn_mono (u_assign (ro:=some l) (n:=1) op ks c (cI op c (pre.map fun x=>x.1.2.2)) (.sl .none (ks.map Ao)) (.fn (.func G7) [] [.eptr [.sl .none (ks.map Ao)]]) x.1.1 x.1.2.2 asg cAs F' g' W _ simA) ?_
  rintro e a' W' ⟨x',t',H',F3,g4,rfl,⟨rfl,rfl,rfl⟩,sim',ext'⟩
  simp only[AX.to,Exit.then]
  have ext3:=h2.trans ext'
  obtain⟨Bk,vk,ek,r1,r2,r3,r4,r5⟩:=sim'.1.var 3 (Ao x.1.2.2) rfl
  obtain⟨kx,ekx,hkc⟩:=kd_one x.1.2.2
  rw[ekx] at r4
  obtain⟨kv,hkv,hkr⟩:=Td r4
  have hBkc:W'.cell? ⟨Bk,0,none⟩=some kv:=by
   simp only[World.cell?,r3,Option.isSome_none,Bool.false_eq_true,if_false]
   rw[← Array.getElem?_toList,hkv]; rfl
  have hBk:w2.heap.size≤Bk:=by
   rcases ext3.blks 3 Bk (by simp[uH]) r1 with⟨h,_⟩ | h
   · exact absurd h (by simp[uH])
   · exact h
  obtain⟨g5,m1,m2,m3⟩:=St.forget (H:=uH op c) (H0:=uH op (cI op c (pre.map fun x=>x.1.2.2))) (L:=[.var (Ao x.1.2.2)]) sim'.1 ext3 (Nat.le_of_eq rfl) (Aq2 _ _) sB
  have m2c:=m2.cells
  refine hK a' W' ((Ext.others h1 (Qk op _) ext').from _) (fun a ha=>ext'.keep a (h2.sub a ha)) ⟨Fc F3 W',g5,m2c,m3.cells hFSc,fun _ h=>h.2⟩ ⟨sim'.2.2.1,fun y=>Fc F3 W' y∨y=⟨Bk,0,none⟩,g5,Ra m2,fun b hb=>?_,fun b hb=>(m2.beyond b hb).1,fun y hy=>?_,?_⟩
  · obtain⟨B,hB,_⟩:=uH_blk sS hb
    rw[hB]; exact (m3.gh.blk b B hB (Ra sS b)).1
  · rcases hy with hy | rfl
    · refine⟨?_,sim'.1.live y hy.1,hy.2,?_⟩
      · rcases ext3.new y hy.1 with h | h | ⟨t,_,h,_⟩
        · exact .inl h
        · exact .inr h
        · exact absurd (Ra sS t) h
      · cases y with
        | mk bl off spot=>
          cases spot with
          | none=>rfl
          | some s=>exact absurd hy.1 (sim'.1.spots _ _ _)
    · exact⟨.inr hBk,B9 r3,by rw[hBkc]; rfl,rfl⟩
  · have u0:RL F3 g4 W' _ a'.tmps.toList:=sim'.2.1
    have Kk:Cr (Fc F3 W') g4 W' (fun y=>Fc F3 W' y∨y=⟨Bk,0,none⟩) g4 W':=⟨fun _ h=>.inl h,fun _ _=>rfl,Gh.le_refl _⟩
    obtain⟨pv,f1,f2⟩:=I7 u0 8 (.ptr 3 0) rfl
    obtain⟨B',k5,_,rfl⟩:=E9 f2
    rw[r1] at k5;cases k5
    have hpv:R (fun y=>Fc F3 W' y∨y=⟨Bk,0,none⟩) g4 W' (.eptr (Ao x.1.2.2)) (.pointer (some ⟨Bk,0,none⟩)):=by
     simp only[R,ekx]
     refine⟨Bk,0,rfl,?_⟩
     simp only[RM]
     exact⟨⟨hkc,kv,.inr trivial,hBkc,R.mono Kk _ _ (K4 _ _ hkr)⟩,trivial⟩
    have u2:=Jn (RL.mono Kk _ _ (Gd _ _ u0)) hpv 8
    have e3:a'.tmps.toList.set 8 (.pointer (some ⟨Bk,0,none⟩))=a'.tmps.toList:=by
     apply List.ext_getElem?
     intro i
     by_cases hi:i=8
     · subst hi
       have hl:8 < a'.tmps.toList.length:=(List.getElem?_eq_some_iff.1 f1).1
       rw[List.getElem?_set_self hl,f1]
     · rw[List.getElem?_set_ne (Ne.symm hi)]
    rw[e3] at u2
    exact Fm (n:=3) m1 _ _ (by simp[uT,Aa,Ag]) u2
 ·
  rintro l pre x a' W hl _ ⟨F',g',h1,h2,h3⟩ ⟨hd,Fx,gx,b1,b2,b3,b4,b5⟩ _
  have gl:=(mk h2).2
  have hblk: ∀b B,g'.blk b=some B→b < 3∧g3.blk b=some B:=fun b B h=>by
   have hb:b < 3:=h1.lt h
   obtain⟨B0,hB0,_⟩:=uH_blk sS hb
   have:=(h2.gh.blk b B0 hB0 (Ra sS b)).1
   rw[h] at this;cases this
   exact⟨hb,hB0⟩
  have hnF: ∀b B off,g'.blk b=some B→¬F' ⟨B,off,none⟩→¬(F' ⟨B,off,none⟩∨Fx ⟨B,off,none⟩):=fun b B off hb hn h=>by
   rcases h with h | h
   · exact hn h
   · rcases (b4 _ h).1 with q | q
     · exact hn (h2.sub _ q)
     · have:=sS.blk_lt (hblk b B hb).2;simp only at q;omega
  have KF:Cr F' g' W (fun y=>F' y∨Fx y) g' W:=⟨fun _ h=>.inl h,fun _ _=>rfl,Gh.le_refl _⟩
  have s3:St (fun y=>F' y∨Fx y) g' (uH op (cI op c (pre.map fun x=>x.1.2.2))) W:=by
   refine⟨fun y hy=>?_,h1.beyond,h1.inj,fun b cs hb=>?_,fun t n k ty ht=>?_,fun b off s hy=>?_,fun b e cs hb=>?_,fun b ks hb=>absurd hb (Qk op _ b ks)⟩
   · rcases hy with hy | hy
     · exact h1.live y hy
     · exact (b4 y hy).2.1
   · obtain⟨B,us,e',k1,k2,k3,k4,k5⟩:=h1.var b cs hb
     exact⟨B,us,e',k1,k2,k3,RL.mono KF _ _ k4,fun off=>hnF b B off k1 (k5 off)⟩
   · exfalso
     match t,ht with
     | 0,ht=>cases ht
     | 1,ht=>cases ht
     | 2,ht=>cases ht
     | t+3,ht=>simp[uH] at ht
   · rcases hy with hy | hy
     · exact h1.spots b off s hy
     · cases (b4 _ hy).2.2.2
   · exfalso
     match b,hb with
     | 0,ht=>cases ht
     | 1,ht=>cases ht
     | 2,ht=>cases ht
     | t+3,ht=>simp[uH] at ht
  have x3:Ext FS g3 (uH op c) w2 (fun y=>F' y∨Fx y) g' (uH op (cI op c (pre.map fun x=>x.1.2.2))) W:=by
   refine⟨fun y hy=>.inl (h2.sub y hy),h2.keep,h2.gh,h2.size,h2.frame,fun y hy=>?_,h2.blks,h2.len,h2.io⟩
   rcases hy with hy | hy
   · exact h2.new y hy
   · exact (b4 y hy).1.imp id .inl
  have tm:Tm (fun y=>F' y∨Fx y) g' W (uT op ks c (.sl .none (ks.map Ao)) (.fn (.func G7) [] [.eptr [.sl .none (ks.map Ao)]]) (.eptr (Ao x.1.2.2)) (.int .i64 x.1.1) (Ag x.1.2.2)) a':=by
   refine b5.mono ⟨fun _ h=>.inr h,fun _ _=>rfl,fun b B hb _=>?_,fun t m k ht=>by rw[b1] at ht;cases ht⟩
   have hb3:b < 3:=by
    rcases Nat.lt_or_ge b 3 with h | h
    · exact h
    · rw[b3 b h] at hb;cases hb
   rw[b2 b hb3] at hb
   exact h2.gh.blk b B hb (Ra sS b)
  refine wpIn_block (wpIn_mono (u_body (ro:=some l) (n:=1) op ks c (cI op c (pre.map fun x=>x.1.2.2)) _ _ _ _ x.1.2.2 bdy cBd _ g' W a' ⟨s3,tm,hd,gl.mono KF⟩) ?_)
  rintro e a'' W'' ⟨x',t',H',F4,g4,rfl,⟨rfl,cs',rfl,hst⟩,sim',ext'⟩
  simp only[AX.to,Exit.inBlock]
  have ext4:=x3.trans ext'
  have hH:([.var [.int .i64 op],.var cs',.var uZ]:List HB).map Gr=uH op (cI op c ((pre++[x]).map fun x=>x.1.2.2)):=by
   simp only[List.map_append,List.map_cons,List.map_nil,cI_snoc,uH,Gr,hst,Ay,AV.strip]
   simp[uZ]
  have st4:=sim'.1.strip.cells
  have ex4:=ext4.strip
  rw[hH] at st4 ex4
  exact⟨(Ext.others s3 (Qk op _) ext').from _,fun a ha=>ext'.keep a (.inl (h2.sub a ha)),Fc F4 W'',g4,st4,ex4.cells hFSc,fun _ h=>h.2⟩
 ·
  rintro D xs W hD hS ⟨F',g',h1,h2,h3⟩ hKD
  obtain⟨tm,gl⟩:=mk h2
  rw[show cI op c (xs.map fun x=>x.1.2.2)=Cq op ks c by rw[hS,cI_rev]] at h1 h2
  simp only[Exit.inBlock,Exit.then]
  refine wpIn_seq (wpIn_mono (Agn (ro:=none) (n:=3) (ds:=[{ target:=.collected D,args:=#[] }]) (Q:=fun x t H=>x= .normal∧(t.getD 6 .undef= .ptr 2 0∧H=[.var [.int .i64 op],.var (Ai (Cq op ks c)),.var (Ai (Cq op ks c))])) cD ⟨h1,tm,by simp[hd2],gl⟩ ?_) ?_)
  ·
   have:=u_last op ks c (Cq op ks c) (.sl .none (ks.map Ao)) (.fn (.func G7) [] [.eptr [.sl .none (ks.map Ao)]]) .undef .undef .undef
   exact Xc this fun t H h=>⟨rfl,h⟩
  · rintro e a3 w3 ⟨x',t',H',F3,g4,rfl,⟨rfl,ht6,rfl⟩,sim',ext'⟩
    simp only[AX.to,Exit.then]
    obtain⟨s3,tm3,hd3,_⟩:=sim'
    have hKD3:w3.heap[D]? =some (.deferred (some [])):=(Ext.others h1 (Qk op _) ext').same D _ hKD rfl
    refine wpIn_ret ?_
    show LeavesInM Fence.wide 3 Tryz.prog fn a3.tmps _ a3.defers .returning w3
    rw[hd3]
    refine⟨by simp,.inl ⟨D,_,rfl,run_takeDeferred hKD3,?_⟩⟩
    have ex3:=((eS.trans h2).trans ext').cells hF0
    have s3c:=s3.cells
    have hnm3:Qh [.var [.int .i64 op],.var (Ai (Cq op ks c)),.var (Ai (Cq op ks c))]:=by
     intro b ks h
     match b,h with
     | 0,h=>cases h
     | 1,h=>cases h
     | 2,h=>cases h
     | b+3,h=>simp at h
    have hc3: ∀a,Fc F3 w3 a→(w3.cell? a).isSome=true:=fun _ h=>h.2
    have hg:w3.grownBy (w3.putObj D (.deferred none)) (some D):=grownBy_putObj' w3 D _
    have hr: ∀r,some D=some r→w.heap.size≤r∧∃o:Obj,w3.heap[r]? =some o∧o.isCells=false:=fun r e=>by
     cases e;exact⟨Nat.le_trans eS.size hD,_,hKD3,rfl⟩
    have s4:=s3c.grown hnm3 hc3 hg fun r e=>(hr r e).2
    have ex4:=ex3.grown hc3 hg hr
    have tm4:Tm (Fc F3 w3) g4 (w3.putObj D (.deferred none)) t' a3:=Tm.mono (Cr.grown hc3 hg fun r e=>(hr r e).2) (show Tm (Fc F3 w3) g4 w3 t' a3 from Gd _ _ tm3)
    have gl4:Dr Tryz.prog (Fc F3 w3) (w3.putObj D (.deferred none)):=hG0.mono ex4.keeps
    obtain⟨u,hu,hru⟩:=Vz (P:=Tryz.prog) (a:={ tmps:=a3.tmps,defers:=[] }) (t:=t') (v:=Aa (Cq op ks c)) ⟨s4,tm4,rfl,gl4⟩ hres (by
     simp only[A9,A8,Bb,ht6]
     simp[Bc,Aa,Ac (Cq op ks c)])
    obtain⟨g5,m1,m2,m3⟩:=St.forget (H:=[]) (H0:=[]) (L:=[.var [.int .i64 op],.var (Ai (Cq op ks c)),.var (Ai (Cq op ks c))]) s4 ex4 (Nat.le_refl _) rfl (fun b _=>hs.beyond b (Nat.zero_le _))
    exact⟨u,hu,u,_,g5,rfl,F9 (n:=0) (fun b hb=>absurd hb (Nat.not_lt_zero b)) _ _ (by simp) hru,m2,m3⟩
 · rintro D c' pre W _ _ h
   exact h.elim
end Go.Proofs.YtemdkfnenjpioaaGreatDoor
